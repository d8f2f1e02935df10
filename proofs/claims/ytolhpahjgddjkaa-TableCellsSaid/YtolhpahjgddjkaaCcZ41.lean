/- Plain laws about the plain functions: words for all of them. No program in sight. -/
import Derived.Test.YtolhpahjgddjkaaCcGf
namespace Go.Proofs.Ytolhpahjgddjkaa
set_option linter.all false
open Go.RowKit
theorem b9 {n:Int} (h1 : -9223372036854775808≤n) (h2:n≤9223372036854775807):w64 n=n:=by
  unfold w64; rw [IntKind.wrap_i64]; omega
theorem bx {α:Type} (x:Option α):chk true x=x:=rfl
theorem jN {i:Int} {n:Nat} (h0:0≤i) (h1:i<n):inb i n=true:=by simp [inb,h0,h1]
theorem bO {α:Type} [Inhabited α] {L:List α} {k:Nat} (h:k<L.length):L.getD k default=L[k]:=by simp [List.getD_eq_getElem?_getD,List.getElem?_eq_getElem h]
theorem cP {n b:Nat} (h:n*b≤140737488355328) (hb:0<b):fits n b=true:=by
  have h1:n≤n*b:=Nat.le_mul_of_pos_right n hb
  have h2:n≤9223372036854775807:=by omega
  simp only [fits,Bool.and_eq_true,decide_eq_true_eq]
  exact ⟨h2,h⟩
end Go.Proofs.Ytolhpahjgddjkaa
namespace Go.Proofs.Ytolhpahjgddjkaa
set_option linter.all false
open Go.RowKit
def lenM (l:cn) (b:Int):Int×Bool :=
  if l.Kind=1 then (min (max l.Value (-1048576)) 1048576,true)
  else if l.Kind=2 then (min (max (w64 (Int.tdiv (w64 ((min (max b 0) 1048576)*(min (max l.Value (-1000000)) 1000000))) 10000)) (-1048576)) 1048576,true)
  else (0,false)
def limM (x:Int):Int:=min (max x 0) 1048576
section
variable (K:Kn) (n:Nat)
theorem rf (x:Int):dT K n x=some (limM x):=rfl
theorem gI (l:cn) (b:Int):cS K n l b=some (lenM l b):=by
  unfold cS lenM
  by_cases h1:l.Kind=1
  · simp [h1,ld]
  · by_cases h2:l.Kind=2
    · simp [h2,ld,dT]
    · simp [h1,h2]
def clampM (s:aG) (w c:Int):Int :=
  let m:=if (lenM s.MaxWidth w).2=true then min (max c 0) (max (lenM s.MaxWidth w).1 0) else max c 0
  if (lenM s.MinWidth w).2=true then max m (lenM s.MinWidth w).1 else m
theorem rM (s:aG) (w c:Int):g6 K n s w c=some (clampM s w c):=by
  unfold g6 clampM
  simp only [gI,Option.bind_some,oh,nS]
  repeat (first | rfl | split)
def edgesM (s:aG) (w c:Int):aS :=
  ⟨⟨(lenM s.Margin.a0 w).1,(lenM s.Margin.a1 w).1,(lenM s.Margin.a2 w).1,(lenM s.Margin.a3 w).1⟩,⟨limM s.Border.a0,limM s.Border.a1,limM s.Border.a2,limM s.Border.a3⟩,
    ⟨max (lenM s.Padding.a0 w).1 0,max (lenM s.Padding.a1 w).1 0,max (lenM s.Padding.a2 w).1 0,max (lenM s.Padding.a3 w).1 0⟩,c⟩
theorem qO (s:aG) (w c:Int):gp K n s w c=some (edgesM s w c):=by
  simp only [gp,gI,rf,Option.bind_some,edgesM]
def sumM (z:aS):Int:=w64 ((w64 ((w64 ((w64 ((w64 ((w64 (z.Content+z.Margin.a1))+z.Margin.a3))+z.Border.a1))+z.Border.a3))+z.Padding.a1))+z.Padding.a3)
theorem py (z:aS):gv K n z=some (sumM z):=rfl
def used1 (s:aG) (v3:Int) (e:aS) (c:Int):aS :=
  let r:=w64 (v3 - sumM { e with Content:=c })
  if r≤0 then { e with Content:=c }
  else if (lenM s.Margin.a3 v3).2=false∧(lenM s.Margin.a1 v3).2=false then { e with Content:=c,Margin:=⟨e.Margin.a0,w64 (r - w64 (Int.tdiv r 2)),e.Margin.a2,w64 (Int.tdiv r 2)⟩ }
  else if (lenM s.Margin.a3 v3).2=false then { e with Content:=c,Margin:=⟨e.Margin.a0,e.Margin.a1,e.Margin.a2,r⟩ }
  else if (lenM s.Margin.a1 v3).2=false then { e with Content:=c,Margin:=⟨e.Margin.a0,r,e.Margin.a2,e.Margin.a3⟩ }
  else { e with Content:=c }
def usedM (s:aG) (w:Int):aS :=
  let v3:=limM w
  let e:=edgesM s v3 0
  let x:=if (lenM s.Width v3).2=true then (lenM s.Width v3).1 else w64 (v3 - sumM e)
  used1 s v3 e (clampM s v3 x)
theorem used_j1 (s:aG) (v3:Int) (e:aS) (x:Int):kM K n s v3 e x=some (used1 s v3 e (clampM s v3 x)):=by
  simp only [kM,rM,py,Option.bind_some,gI,used1]
  cases h3:(lenM s.Margin.a3 v3).2<;>cases h1:(lenM s.Margin.a1 v3).2<;>simp [m7,jv,h3,h1]<;>split<;>rfl
theorem used_def (s:aG) (w:Int):jg K n s w=some (usedM s w):=by
  simp only [jg,rf,qO,gI,py,Option.bind_some,used_j1,usedM]
  cases h:(lenM s.Width (limM w)).2<;>simp [h]
def smallM (l:cn):Prop := -16777216≤l.Value∧l.Value≤16777216
theorem dU (l:cn):∃ b,dg K n l=some b∧(b=true→smallM l):=by
  unfold dg pi
  by_cases h:l.Value ≥ -16777216
  · simp only [h,decide_true,if_true]
    exact ⟨_,rfl,fun e=>⟨h,of_decide_eq_true e⟩⟩
  · simp only [h,decide_false,Bool.false_eq_true,if_false]
    exact ⟨_,rfl,fun e=>by cases e⟩
structure FewS (x:bN):Prop where
  text:(x.Text.size:Int)≤60
  left:smallM x.Style.Left
  top:smallM x.Style.Top
  width:smallM x.Style.Width
  height:smallM x.Style.Height
  minw:smallM x.Style.MinWidth
  maxw:smallM x.Style.MaxWidth
  basis:smallM x.Style.Basis
  lh:0≤x.Style.LineHeight∧x.Style.LineHeight≤65536
  fs:0≤x.Style.FontSize∧x.Style.FontSize≤65536
  grow:0≤x.Style.Grow∧x.Style.Grow≤1048576
  shrink:0≤x.Style.Shrink∧x.Style.Shrink≤1048576
  m0:smallM x.Style.Margin.a0
  m1:smallM x.Style.Margin.a1
  m2:smallM x.Style.Margin.a2
  m3:smallM x.Style.Margin.a3
  p0:smallM x.Style.Padding.a0
  p1:smallM x.Style.Padding.a1
  p2:smallM x.Style.Padding.a2
  p3:smallM x.Style.Padding.a3
theorem few_round (L:List bN) (m:Int) (L1:Int→Option Bool) (i:Int) (h0:0≤i) (hi:i<L.length):gx K n L m L1 i=some false∨(FewS (L.getD i.toNat default)∧gx K n L m L1 i=L1 (w64 (i+1))):=by
  unfold gx
  simp only [hi,decide_true,if_true,jN h0 hi,bx]
  generalize hx:L.getD i.toNat default=x
  have j5:∀ b,ky K n L m i L1 b=if b=true then some false else L1 (w64 (i+1)):=fun b=>rfl
  obtain ⟨b1,e1,f1⟩:=dU K n x.Style.Left
  obtain ⟨b2,e2,f2⟩:=dU K n x.Style.Top
  obtain ⟨b3,e3,f3⟩:=dU K n x.Style.Width
  obtain ⟨b4,e4,f4⟩:=dU K n x.Style.Height
  obtain ⟨b5,e5,f5⟩:=dU K n x.Style.MinWidth
  obtain ⟨b6,e6,f6⟩:=dU K n x.Style.MaxWidth
  obtain ⟨b7,e7,f7⟩:=dU K n x.Style.Basis
  obtain ⟨c0,g0,k0⟩:=dU K n x.Style.Margin.a0
  obtain ⟨c1,g1,k1⟩:=dU K n x.Style.Margin.a1
  obtain ⟨c2,g2,k2⟩:=dU K n x.Style.Margin.a2
  obtain ⟨c3,g3,k3⟩:=dU K n x.Style.Margin.a3
  obtain ⟨d0,q0,r0⟩:=dU K n x.Style.Padding.a0
  obtain ⟨d1,q1,r1⟩:=dU K n x.Style.Padding.a1
  obtain ⟨d2,q2,r2⟩:=dU K n x.Style.Padding.a2
  obtain ⟨d3,q3,r3⟩:=dU K n x.Style.Padding.a3
  have jt:cU K n L m i L1 true=some false:=rfl
  have j1:cU K n L m i L1 false=some false∨((c0=true∧c1=true∧c2=true∧c3=true∧d0=true∧d1=true∧d2=true∧d3=true)∧cU K n L m i L1 false=L1 (w64 (i+1))):=by
    simp only [cU,mS,ow,oH,ky,hx,g0,g1,g2,g3,q0,q1,q2,q3,Option.bind_some]
    cases c0<;>cases d0<;>cases c1<;>cases d1<;>cases c2<;>cases d2<;>cases c3<;>cases d3<;>simp
  simp only [e1,e2,e3,e4,e5,e6,e7,Option.bind_some,jt]
  by_cases t0:(x.Text.size:Int)>60
  · left; simp [t0]
  simp only [t0,decide_false,Bool.false_eq_true,if_false]
  cases b1
  · left; simp
  simp only [Bool.not_true,Bool.false_eq_true,if_false]
  cases b2
  · left; simp
  simp only [Bool.not_true,Bool.false_eq_true,if_false]
  cases b3
  · left; simp
  simp only [Bool.not_true,Bool.false_eq_true,if_false]
  cases b4
  · left; simp
  simp only [Bool.not_true,Bool.false_eq_true,if_false]
  cases b5
  · left; simp
  simp only [Bool.not_true,Bool.false_eq_true,if_false]
  cases b6
  · left; simp
  simp only [Bool.not_true,Bool.false_eq_true,if_false]
  cases b7
  · left; simp
  simp only [Bool.not_true,Bool.false_eq_true,if_false]
  by_cases u1:x.Style.LineHeight<0
  · left; simp [u1]
  simp only [u1,decide_false,Bool.false_eq_true,if_false]
  by_cases u2:x.Style.LineHeight>65536
  · left; simp [u2]
  simp only [u2,decide_false,Bool.false_eq_true,if_false]
  by_cases u3:x.Style.FontSize<0
  · left; simp [u3]
  simp only [u3,decide_false,Bool.false_eq_true,if_false]
  by_cases u4:x.Style.FontSize>65536
  · left; simp [u4]
  simp only [u4,decide_false,Bool.false_eq_true,if_false]
  by_cases u5:x.Style.Grow<0
  · left; simp [u5]
  simp only [u5,decide_false,Bool.false_eq_true,if_false]
  by_cases u6:x.Style.Grow>1048576
  · left; simp [u6]
  simp only [u6,decide_false,Bool.false_eq_true,if_false]
  by_cases u7:x.Style.Shrink<0
  · left; simp [u7]
  simp only [u7,decide_false,Bool.false_eq_true,if_false]
  by_cases u8:x.Style.Shrink>1048576
  · left; simp only [u8,decide_true]; exact jt
  simp only [u8,decide_false]
  rcases j1 with h | ⟨⟨a0,a1,a2,a3,p0,p1,p2,p3⟩,h⟩
  · exact .inl h
  · refine .inr ⟨⟨by omega,f1 rfl,f2 rfl,f3 rfl,f4 rfl,f5 rfl,f6 rfl,f7 rfl,⟨by omega,by omega⟩,⟨by omega,by omega⟩,⟨by omega,by omega⟩,⟨by omega,by omega⟩,k0 a0,k1 a1,k2 a2,k3 a3,r0 p0,r1 p1,r2 p2,r3 p3⟩,h⟩
theorem few_loop (L:List bN) (mx:Int) (hL:(L.length:Int)≤9223372036854775807):∀ (m:Nat) (i:Int),0≤i→i≤L.length→(L.length:Int)<m+i →
    ∃ b,jj K n L mx m i=some b∧(b=true→(L.length:Int)≤mx∧∀ k,i.toNat≤k→k<L.length→FewS (L.getD k default)):=by
  intro m
  induction m with
  | zero=>intro i h0 h1 h2; omega
  | succ m ih =>
    intro i h0 h1 h2
    show ∃ b,gx K n L mx (jj K n L mx m) i=some b∧_
    by_cases hi:i<(L.length:Int)
    · rcases few_round K n L mx (jj K n L mx m) i h0 hi with h | ⟨h,h'⟩
      · exact ⟨false,h,fun e=>by cases e⟩
      · obtain ⟨b,hb,hk⟩:=ih (i+1) (by omega) (by omega) (by omega)
        rw [h',b9 (by omega) (by omega)]
        refine ⟨b,hb,fun e=>⟨(hk e).1,fun k h3 h4=>?_⟩⟩
        by_cases e2:k=i.toNat
        · subst e2; exact h
        · exact (hk e).2 k (by omega) h4
    · have hd:decide (i<(L.length:Int))=false:=by simpa using hi
      unfold gx
      simp only [hd,Bool.false_eq_true,if_false]
      exact ⟨_,rfl,fun e=>⟨of_decide_eq_true e,fun k h3 h4=>by omega⟩⟩
theorem few_tot (L:List bN) (mx:Int) (hL:(L.length:Int)≤9223372036854775807) (hn:L.length<n):∃ b,qp K n L mx=some b∧(b=true→(L.length:Int)≤mx∧∀ x∈L,FewS x):=by
  obtain ⟨b,h1,h2⟩:=few_loop K n L mx hL n 0 (by omega) (by omega) (by omega)
  refine ⟨b,h1,fun e=>⟨(h2 e).1,fun x hx=>?_⟩⟩
  obtain ⟨k,hk,rfl⟩:=List.mem_iff_getElem.1 hx
  have:=(h2 e).2 k (by simp) hk
  rwa [bO hk] at this
end
theorem step64 {i:Nat} (h:i<1000000):w64 ((i:Int)+1)=((i+1:Nat):Int):=by rw [b9 (by omega) (by omega)]; omega
theorem pH {i n:Nat} (h:i<n):decide ((i:Int)<(n:Int))=true:=by simpa using h
theorem oP {i n:Nat} (h:n≤i):decide ((i:Int)<(n:Int))=false:=by simpa using h
theorem inbN {i n:Nat} (h:i<n):inb (i:Int) n=true:=jN (by omega) (by omega)
theorem drop_at' {α:Type} [Inhabited α] {L:List α} {i:Nat} (h:i<L.length):L.drop i=L.getD i default::L.drop (i+1):=by
  rw [bO h]; exact List.drop_eq_getElem_cons h
theorem ey {α:Type} [Inhabited α] {L:List α} {i:Nat} (h:i<L.length):L.getD i default∈L:=by
  rw [bO h]; exact List.getElem_mem h
def inM (k:ab):Bool:=k.Kind == 3 || k.Style.Position != 2
def outerM (k:ab):Bool:=k.Kind == 1 || (k.Kind == 6 || k.Kind == 7)
theorem flow_def (K:Kn) (n:Nat) (k:ab):mV K n k=some (inM k):=by
  unfold mV inM nV; cases h:k.Kind == 3<;>simp
theorem rO (K:Kn) (n:Nat) (k:ab):l6 K n k=some (outerM k):=by
  unfold l6 outerM l5
  cases h:k.Kind == 1<;>cases h2:k.Kind == 6<;>simp
theorem index_loop (K:Kn) (n:Nat) (hO:∀ x,K.gM (Fv.fn 90) x=some (outerM x)) (L:List ab) (hL:L.length≤20):∀ (m i:Nat),i≤L.length→L.length<m+i →
    ∃ r,jE K n L (Fv.fn 90) m i=some r∧decide (r≥0)=(L.drop i).any outerM:=by
  intro m
  induction m with
  | zero=>intro i h1 h2; omega
  | succ m ih =>
    intro i h1 h2
    simp only [jE,mP]
    by_cases hi:i<L.length
    · rw [drop_at' hi]
      simp only [pH hi,if_true,inbN hi,bx,hO,Option.bind_some,Int.toNat_natCast,List.any_cons,step64 (show i<1000000 by omega)]
      cases hq:outerM (L.getD i default)
      · simp only [Bool.false_eq_true,if_false,Bool.false_or]
        exact ih (i+1) (by omega) (by omega)
      · exact ⟨_,rfl,by simp⟩
    · have e:i=L.length:=by omega
      subst e
      simp only [oP (Nat.le_refl _),Bool.false_eq_true,if_false,List.drop_length]
      exact ⟨_,rfl,by simp⟩
theorem contains_def (K:Kn) (n:Nat) (hO:∀ x,K.gM (Fv.fn 90) x=some (outerM x)) (L:List ab) (hL:L.length≤20) (hn:20<n):mz K n L (Fv.fn 90)=some (L.any outerM):=by
  obtain ⟨r,h1,h2⟩:=index_loop K n hO L hL n 0 (by omega) (by omega)
  unfold mz pR
  rw [show jE K n L (Fv.fn 90) n 0=some r from h1]
  simp only [Option.bind_some,h2,List.drop_zero]
theorem flow_loop (K:Kn) (n:Nat) (b:ab) (hb:b.Kids.length≤20):∀ (m i:Nat) (acc:List ab),i≤b.Kids.length→b.Kids.length<m+i→acc.length≤i →
    kg K n b m i acc=(mz K n (acc++(b.Kids.drop i).filter inM) (Fv.fn 90)).bind fun v=>some (acc++(b.Kids.drop i).filter inM,v):=by
  intro m
  induction m with
  | zero=>intro i acc h1 h2; omega
  | succ m ih =>
    intro i acc h1 h2 h3
    simp only [kg,oV]
    by_cases hi:i<b.Kids.length
    · rw [drop_at' hi]
      simp only [pH hi,if_true,inbN hi,bx,flow_def,Option.bind_some,mO,Int.toNat_natCast,List.length_cons,List.length_nil,step64 (show i<1000000 by omega),List.filter_cons]
      cases hq:inM (b.Kids.getD i default)
      · simp only [Bool.false_eq_true,if_false]
        exact ih (i+1) acc (by omega) (by omega) (by omega)
      · simp only [if_true]
        rw [cP (by omega) (by omega),bx,ih (i+1) _ (by omega) (by omega) (by simp; omega)]
        simp only [List.append_assoc,List.singleton_append]
    · have e:i=b.Kids.length:=by omega
      subst e
      simp only [oP (Nat.le_refl _),Bool.false_eq_true,if_false,List.drop_length,List.filter_nil,List.append_nil]
def flowM (b:ab):List ab:=b.Kids.filter inM
theorem flowM_len {b:ab}:(flowM b).length≤b.Kids.length:=List.length_filter_le _ _
theorem bflow_def (K:Kn) (n:Nat) (hO:∀ x,K.gM (Fv.fn 90) x=some (outerM x)) (b:ab) (hb:b.Kids.length≤20) (hn:20<n):ly K n b=some (flowM b,(flowM b).any outerM):=by
  have h:=flow_loop K n b hb n 0 [] (by omega) (by omega) (by simp)
  unfold ly
  refine (show _=_ from h).trans ?_
  simp only [List.nil_append,List.drop_zero]
  rw [show b.Kids.filter inM=flowM b from rfl,contains_def K n hO _ (Nat.le_trans flowM_len hb) hn]
  rfl
def linesM (s:aG) (w:Int):List ab→Int→List aa→List aa×Int
  | [],y,acc=>(acc,y)
  | k::r,y,acc=>if k.Text.toList == (⟨#[]⟩:ByteArray).toList then linesM s w r y acc else linesM s w r (w64 (y+s.LineHeight)) (acc++[{ aX with Kind:=2,Y:=y,W:=w,H:=s.LineHeight,Text:=k.Text }])
theorem lines_loop (K:Kn) (n:Nat) (L:List ab) (s:aG) (w:Int) (hL:L.length≤20):∀ (m i:Nat) (y:Int) (acc:List aa),i≤L.length→L.length<m+i→acc.length≤i →
    lP K n L s w m y i acc=some (linesM s w (L.drop i) y acc):=by
  intro m
  induction m with
  | zero=>intro i y acc h1 h2; omega
  | succ m ih =>
    intro i y acc h1 h2 h3
    simp only [lP,mW]
    by_cases hi:i<L.length
    · rw [drop_at' hi]
      simp only [pH hi,if_true,inbN hi,bx,Option.bind_some,ox,Int.toNat_natCast,List.length_cons,List.length_nil,step64 (show i<1000000 by omega),linesM]
      cases hq:(L.getD i default).Text.toList == (⟨#[]⟩:ByteArray).toList
      · simp only [Bool.not_false,Bool.false_eq_true,if_false,if_true]
        rw [cP (by omega) (by omega),bx,ih (i+1) _ _ (by omega) (by omega) (by simp; omega)]
      · simp only [Bool.not_true,Bool.false_eq_true,if_false,if_true]
        exact ih (i+1) _ acc (by omega) (by omega) (by omega)
    · have e:i=L.length:=by omega
      subst e
      simp only [oP (Nat.le_refl _),Bool.false_eq_true,if_false,List.drop_length,linesM]
theorem lines_def (K:Kn) (n:Nat) (L:List ab) (s:aG) (w:Int) (hL:L.length≤20) (hn:20<n):pM K n L s w=some (linesM s w L 0 []) :=
  (lines_loop K n L s w hL n 0 0 [] (by omega) (by omega) (by simp)).trans (by simp only [List.drop_zero])
theorem rF (s:aG) (w:Int):∀ (L:List ab) (y:Int) (acc:List aa),(∀ f∈acc,f.Kids=[])→(linesM s w L y acc).1.length≤acc.length+L.length∧∀ f∈(linesM s w L y acc).1,f.Kids=[]
  | [],y,acc,h=>⟨by simp [linesM],h⟩
  | k::r,y,acc,h=>by
    unfold linesM
    split
    · have:=rF s w r y acc h
      exact ⟨by simp only [List.length_cons]; omega,this.2⟩
    · have:=rF s w r (w64 (y+s.LineHeight)) (acc++[{ aX with Kind:=2,Y:=y,W:=w,H:=s.LineHeight,Text:=k.Text }]) (fun f hf=>by
        rcases List.mem_append.1 hf with hf | hf
        · exact h f hf
        · simp only [List.mem_cons,List.not_mem_nil,or_false] at hf; subst hf; rfl)
      refine ⟨?_,this.2⟩
      have h1:=this.1
      simp only [List.length_append,List.length_cons,List.length_nil] at h1 ⊢
      omega
def movM (f:aa) (w:Int):aa :=
  if f.Style.Position=1 then { f with X:=w64 (f.X+(lenM f.Style.Left w).1),Y:=if f.Style.Top.Kind=1 then w64 (f.Y+(lenM f.Style.Top 0).1) else f.Y } else f
theorem moved_def (K:Kn) (n:Nat) (f:aa) (w:Int):nM K n f w=some (movM f w):=by
  unfold nM movM
  simp only [gI,Option.bind_some,nL]
  by_cases h:f.Style.Position=1
  · by_cases h2:f.Style.Top.Kind=1<;>simp [h,h2]
  · simp [h]
theorem movM_kids (f:aa) (w:Int):(movM f w).Kids=f.Kids:=by unfold movM; split<;>rfl
theorem w64_eq {a b:Int} (h:a % 18446744073709551616=b % 18446744073709551616):w64 a=w64 b:=by
  unfold w64; rw [IntKind.wrap_i64,IntKind.wrap_i64]; omega
theorem w64_mod (a:Int):w64 a % 18446744073709551616=a % 18446744073709551616:=by
  unfold w64; rw [IntKind.wrap_i64]; omega
def kidM (bl:Bool) (z:aS) (down:Int) (f:aa):aa :=
  if bl=true then movM { f with X:=w64 (f.X+w64 (z.Border.a3+z.Padding.a3)),Y:=w64 (f.Y+w64 (w64 (z.Border.a0+z.Padding.a0)+down)) } z.Content
  else { f with X:=w64 (f.X+w64 (z.Border.a3+z.Padding.a3)),Y:=w64 (f.Y+w64 (w64 (z.Border.a0+z.Padding.a0)+down)) }
theorem kidM_kids (bl:Bool) (z:aS) (down:Int) (f:aa):(kidM bl z down f).Kids=f.Kids:=by
  unfold kidM; split
  · rw [movM_kids]
  · rfl
def finM (b:ab) (z:aS) (bl:Bool) (L:List aa) (d:Int) (bf af:aB) (em:Bool) (h:Int):aa :=
  ⟨1,b.Node,z.Margin.a3,0,w64 (z.Content+w64 (w64 (w64 (z.Border.a3+z.Padding.a3)+z.Border.a1)+z.Padding.a1)),w64 (w64 (w64 (w64 (h+z.Border.a0)+z.Padding.a0)+z.Border.a2)+z.Padding.a2),0,⟨#[]⟩,b.Style,bf,af,em,L.map (kidM bl z d)⟩
theorem set_mid {α:Type} (A R:List α) (x y:α):(A++x::R).set A.length y=A++y::R:=by
  rw [List.set_append_right _ _ (Nat.le_refl _)]; simp
theorem getD_mid {α:Type} (A R:List α) (x d:α):(A++x::R).getD A.length d=x:=by simp [List.getD_eq_getElem?_getD]
theorem bfin_loop (K:Kn) (n:Nat) (b:ab) (z:aS) (v6:(List ab)×Bool) (L:List aa) (d:Int) (bf af:aB) (em:Bool) (v39 H:Int) (hl:L.length≤20) (ho:v6.2=true→v6.1.length=L.length∧∀ k∈v6.1,outerM k=true) :
    ∀ (m:Nat) (A R:List aa),A.length+R.length=L.length→R.length<m→kY K n b z v6 L d bf af em v39 H m (A.length:Int) (A++R) =
      some ⟨1,b.Node,z.Margin.a3,0,w64 (z.Content+v39),H,0,⟨#[]⟩,b.Style,bf,af,em,A++R.map (kidM v6.2 z d)⟩:=by
  intro m
  induction m with
  | zero=>intro A R _ h2; omega
  | succ m ih =>
    intro A R h1 h2
    simp only [kY,nb]
    cases R with
    | nil =>
      have e:A.length=L.length:=by simpa using h1
      simp only [oP (show L.length≤A.length by omega),Bool.false_eq_true,if_false,List.map_nil]
    | cons x R =>
      simp only [List.length_cons] at h1 h2
      have hA:A.length<L.length:=by omega
      have nx:=ih (A++[kidM v6.2 z d x]) R (by simp; omega) (by omega)
      simp only [List.append_assoc,List.singleton_append,List.length_append,List.length_cons,List.length_nil,Nat.zero_add] at nx
      simp only [pH hA,if_true,Int.toNat_natCast,set_mid,getD_mid,inbN (show A.length<(A++x::R).length by simp),List.length_append,List.length_cons,inbN (show A.length<A.length+(R.length+1) by omega),bx,rO,Option.bind_some,nq,oU,moved_def,step64 (show A.length<1000000 by omega),List.map_cons]
      cases hv:v6.2 with
      | false =>
        rw [hv] at nx
        simp only [Bool.false_eq_true,if_false]
        simp only [kidM,Bool.false_eq_true,if_false] at nx ⊢
        exact nx
      | true =>
        rw [hv] at nx
        obtain ⟨g1,g2⟩:=ho hv
        have hin:A.length<v6.1.length:=by omega
        simp only [if_true,inbN hin,bx,g2 _ (ey hin)]
        simp only [kidM,if_true] at nx ⊢
        exact nx
section
variable (K:Kn) (n:Nat) (hn:20<n) (b:ab) (z:aS) (L:List aa) (hl:L.length≤20)
include hn hl
theorem bj8 (v6:(List ab)×Bool) (ho:v6.2=true→v6.1.length=L.length∧∀ k∈v6.1,outerM k=true) (d:Int) (bf af:aB) (em:Bool) (h:Int):kU K n b z v6 L d bf af em h=some (finM b z v6.2 L d bf af em h):=by
  unfold kU
  simp only [qo,Option.bind_some]
  exact bfin_loop K n b z v6 L d bf af em _ _ hl ho n [] L (by simp) (by omega)
def heiM (s:aG) (h:Int):Int:=if s.Height.Kind=1 then max (min (max s.Height.Value (-1048576)) 1048576) 0 else max h 0
theorem bj6 (v6:(List ab)×Bool) (ho:v6.2=true→v6.1.length=L.length∧∀ k∈v6.1,outerM k=true) (d h:Int) (bf af:aB) (em:Bool):fJ K n b z v6 L d h bf af em=some (finM b z v6.2 L d bf af em (heiM b.Style h)):=by
  unfold fJ
  simp only [gI,Option.bind_some,nd,bj8 K n hn b z L hl v6 ho]
  by_cases hk:b.Style.Height.Kind=1
  · simp [hk,heiM,lenM]
  · simp only [heiM,hk,if_false,beq_iff_eq,Bool.false_eq_true]
    split<;>rfl
end
theorem clone_def (K:Kn) (n:Nat) (l:List aa) (hl:l.length≤20):n3 K n l=some l:=by
  unfold n3 both
  have hf:fits (([]:List aa).length+l.length) 584=true:=by rw [List.length_nil,Nat.zero_add]; exact cP (by omega) (by omega)
  rw [hf]
  cases l<;>simp [bx]
end Go.Proofs.Ytolhpahjgddjkaa
namespace Go.Proofs.Ytolhpahjgddjkaa
set_option linter.all false
open Go.RowKit
def mix {α:Type} (i:Nat) (N O:List α):List α:=N.take i++O.drop i
variable {α:Type} [Inhabited α] {i:Nat} {N O:List α}
theorem dK (h:N.length=O.length):(mix i N O).length=O.length:=by unfold mix; simp; omega
theorem gC:mix 0 N O=O:=by simp [mix]
theorem gn (h:N.length=O.length):mix O.length N O=N:=by unfold mix; rw [List.take_of_length_le (by omega),List.drop_eq_nil_of_le (Nat.le_refl _),List.append_nil]
theorem jO (h:N.length=O.length) (hi:i<O.length):(mix i N O).getD i default=O.getD i default:=by
  unfold mix
  rw [List.drop_eq_getElem_cons hi,List.getD_eq_getElem?_getD,List.getElem?_append_right (by simp; omega)]
  have:i - (N.take i).length=0:=by simp; omega
  rw [this,bO hi]; rfl
theorem mix_lt (h:N.length=O.length) {k:Nat} (hk:k<i) (hi:i≤O.length):(mix i N O).getD k default=N.getD k default:=by
  unfold mix
  rw [List.getD_eq_getElem?_getD,List.getElem?_append_left (by simp; omega),List.getElem?_take_of_lt hk,List.getD_eq_getElem?_getD]
theorem mix_succ (h:N.length=O.length) (hi:i<O.length):mix (i+1) N O=N.take i++N.getD i default::O.drop (i+1):=by
  unfold mix
  rw [List.take_succ_eq_append_getElem (by omega:i<N.length),bO (by omega:i<N.length),List.append_assoc]
  rfl
theorem eM (h:N.length=O.length) (hi:i<O.length):List.set (mix i N O) i (N.getD i default)=mix (i+1) N O:=by
  rw [mix_succ h hi]
  unfold mix
  rw [List.drop_eq_getElem_cons hi]
  have:i=(N.take i).length+0:=by simp; omega
  conv=>lhs; arg 2; rw [this]
  rw [List.set_append_right _ _ (by omega),Nat.add_sub_cancel_left,List.set_cons_zero]
theorem tE (h:N.length=O.length) (hi:i<O.length):(mix (i+1) N O).getD i default=N.getD i default:=mix_lt h (by omega) (by omega)
def tab (n:Nat) (f:Nat→α):List α:=(List.range n).map f
theorem cJ (n:Nat) (f:Nat→α):(tab n f).length=n:=by simp [tab]
theorem eu {n:Nat} {f:Nat→α} {k:Nat} (h:k<n):(tab n f).getD k default=f k:=by
  rw [bO (by rw [cJ]; exact h)]; simp [tab]
theorem gE {L M:List α} (h:L.length=M.length) (e:∀ k,k<M.length→L.getD k default=M.getD k default):L=M:=by
  refine List.ext_getElem h (fun k h1 h2=>?_)
  have:=e k h2
  rw [bO h1,bO h2] at this; exact this
theorem l8 {n:Nat} {f:Nat→α}:tab (n+1) f=tab n f++[f n]:=by simp [tab,List.range_succ]
end Go.Proofs.Ytolhpahjgddjkaa
namespace Go.Proofs.Ytolhpahjgddjkaa
set_option linter.all false
open Go.RowKit
set_option maxRecDepth 20000
theorem tnat (i:Nat):((i:Int)).toNat=i:=by omega
def sm:List Int→Int
  | []=>0
  | x::r=>x+sm r
theorem ff:∀ (a b:List Int),sm (a++b)=sm a+sm b
  | [],b=>by simp [sm]
  | x::r,b=>by simp only [List.cons_append,sm,ff r b]; omega
theorem sm_bd {B:Int} (hB:0≤B):∀ (a:List Int),(∀ x∈a,-B≤x∧x≤B) → -(a.length*B)≤sm a∧sm a≤a.length*B
  | [],_=>by simp [sm]
  | x::r,h=>by
    have h1:=h x (by simp)
    have h2:=sm_bd hB r (fun y hy=>h y (by simp [hy]))
    have e:((x::r).length:Int)*B=r.length*B+B:=by simp [Int.add_mul]
    simp only [sm]; rw [e]; omega
theorem sm_step (l:List Int) {a i:Nat} (ha:a≤i) (hi:i<l.length):sm (List.drop a (List.take (i+1) l))=sm (List.drop a (List.take i l))+l.getD i default:=by
  rw [bO hi,List.take_succ_eq_append_getElem hi,List.drop_append_of_le_length (by simp; omega),ff]; simp [sm]
end Go.Proofs.Ytolhpahjgddjkaa
namespace Go.Proofs.Ytolhpahjgddjkaa.QSort
set_option linter.all false
open Go.RowKit
theorem aE {α:Type} {i:Int} {m:Nat} {x:Option α} (h:0≤i∧i<m):chk (inb i m) x=x:=by rw [jN h.1 h.2]; rfl
theorem gd {A B:List Int} {x:Int} {i:Nat} (h:i=A.length):(A++x::B).getD i default=x:=by subst h; simp [List.getD_eq_getElem?_getD]
theorem gd1 {A B:List Int} {x y:Int} {i:Nat} (h:i=A.length+1):(A++x::y::B).getD i default=y:=by subst h; simp [List.getD_eq_getElem?_getD]
theorem sw {A B:List Int} {x y:Int} {i j:Nat} (h:i=A.length) (hj:j=A.length+1):List.set (List.set (A++x::y::B) j x) i y=A++y::x::B:=by subst h; subst hj; simp [List.set_append]
theorem sw' {A B:List Int} {x y:Int} {i j:Nat} (h:i=A.length) (hj:j=A.length+1):List.set (List.set (A++x::y::B) i y) j x=A++y::x::B:=by subst h; subst hj; simp [List.set_append]
theorem wn {n:Int} {k:Nat} (h:n=k) (hk:k≤4000000000):w64 n=(k:Int):=by subst h; exact b9 (by omega) (by omega)
theorem half {i j:Nat} (h:i+j≤4000000000):w64 ((IntKind.wrap .u64 (w64 ((i:Int)+(j:Int)))) / 2)=(((i+j) / 2:Nat):Int):=by
  rw [wn (n:=(i:Int)+(j:Int)) (k:=i+j) (by omega) (by omega),IntKind.wrap_u64]
  exact wn (by omega) (by omega)
theorem iteT {α:Type} {p:Prop} [Decidable p] {x y:α} (h:p):(if decide p=true then x else y)=x:=by simp [h]
theorem iteF {α:Type} {p:Prop} [Decidable p] {x y:α} (h:¬ p):(if decide p=true then x else y)=y:=by simp [h]
theorem iteB {α:Type} {p:Prop} [Decidable p] {x y:α} (h:¬ p):(if (!decide p)=true then x else y)=x:=by simp [h]
theorem iteC {α:Type} {p:Prop} [Decidable p] {x y:α} (h:p):(if (!decide p)=true then x else y)=y:=by simp [h]
theorem sb {α β:Type} (x:α) (k:α→Option β):(some x).bind k=k x:=rfl
structure Cmp (K:Kn) (f:Fv) (D:Int→Prop) (key:Int→Int):Prop where
  ok:∀ a b,D a→D b→∃ c,K.dP f a b=some c∧(c<0↔key a<key b)
def R (key:Int→Int) (a b:Int):Prop:=key a<key b∨key a=key b∧a<b
theorem R.trans {key:Int→Int} {a b c:Int} (h:R key a b) (h2:R key b c):R key a c:=by unfold R at *; omega
theorem R.irr {key:Int→Int} {a:Int} (h:R key a a):False:=by unfold R at *; omega
theorem R.asymm {key:Int→Int} {a b:Int} (h:R key a b) (h2:R key b a):False:=by unfold R at *; omega
theorem R.of_lt {key:Int→Int} {a b:Int} (h:b<a):key a<key b↔R key a b:=by unfold R; omega
theorem R.not {key:Int→Int} {a b:Int} (h:a≠b) (h2:¬ R key a b):R key b a:=by unfold R at *; omega
variable {K:Kn} {n:Nat} {f:Fv} {D:Int→Prop} {key:Int→Int}
theorem ins_l2 (hC:Cmp K f D key) (P T:List Int) (b i:Int) (L1:Int→List Int→Option (List Int)):∀ (m:Nat) (S1 S2:List Int) (x:Int),S1.length<m→(∀ y∈S1,y<x∧D y)→D x→(S1++S2).Pairwise (R key)→(∀ y∈S2,R key x y)→P.length+S1.length≤10000 →
    ∃ S',S'.Perm (x::(S1++S2))∧S'.Pairwise (R key)∧jZ K n ((P.length:Nat):Int) b f i L1 m ((P.length+S1.length:Nat):Int) (P++S1++x::S2++T)=L1 (w64 (i+1)) (P++S'++T):=by
  intro m
  induction m with
  | zero=>intro S1 S2 x h; omega
  | succ m ih =>
    intro S1 S2 x hm hS hx hp h2 hl
    simp only [jZ,pn]
    rcases List.eq_nil_or_concat S1 with rfl | ⟨S0,y,rfl⟩
    · refine ⟨x::S2,by simp,?_,?_⟩
      · rw [List.pairwise_cons]; exact ⟨h2,by simpa using hp⟩
      · rw [iteF (by simp)]
        simp [kq]
    · simp only [List.concat_eq_append] at *
      have hy:=hS y (by simp)
      simp only [List.length_append,List.length_cons,List.length_nil] at hm hl
      have e1:P++(S0++[y])++x::S2++T=(P++S0)++y::x::(S2++T):=by simp
      have k1:((P.length+(S0++[y]).length:Nat):Int)=((P.length+S0.length+1:Nat):Int):=by simp; omega
      have hlen:((P++S0)++y::x::(S2++T)).length≥P.length+S0.length+2:=by simp; omega
      rw [e1,k1,iteT (by omega)]
      rw [wn (n:=((P.length+S0.length+1:Nat):Int) - 1) (k:=P.length+S0.length) (by omega) (by omega)]
      rw [aE (by omega),aE (by omega)]
      simp only [Int.toNat_natCast]
      rw [gd1 (i:=P.length+S0.length+1) (by simp),gd (i:=P.length+S0.length) (by simp)]
      obtain ⟨c,hc,hlt⟩:=hC.ok x y hx hy.2
      rw [hc,sb]
      simp only [kq]
      by_cases hr:c<0
      · rw [iteT hr]
        rw [wn (n:=((P.length+S0.length+1:Nat):Int) - 1) (k:=P.length+S0.length) (by omega) (by omega)]
        simp only [List.length_set]
        rw [aE (by omega),aE (by omega),aE (by omega),aE (by omega)]
        simp only [Int.toNat_natCast]
        rw [gd1 (i:=P.length+S0.length+1) (by simp),gd (i:=P.length+S0.length) (by simp),sw (by simp) (by simp)]
        have hxy:R key x y:=(R.of_lt hy.1).1 (hlt.1 hr)
        obtain ⟨S',p1,p2,p3⟩:=ih S0 (y::S2) x (by omega) (fun z hz=>hS z (by simp [hz])) hx (by simpa using hp)
          (fun z hz=>by
            rcases List.mem_cons.1 hz with rfl | hz
            · exact hxy
            · exact h2 z hz) (by omega)
        refine ⟨S',by simpa using p1,p2,?_⟩
        have e3:P++S0++x::y::(S2++T)=P++S0++x::(y::S2)++T:=by simp
        rw [e3,p3]
      · rw [iteF hr]
        have hyx:R key y x:=R.not (by omega) (fun h=>hr (hlt.2 ((R.of_lt hy.1).2 h)))
        refine ⟨S0++y::x::S2,?_,?_,by simp⟩
        · exact (List.Perm.of_eq (by simp)).trans (List.perm_middle (l₁:=S0++[y]) (a:=x) (l₂:=S2))
        · simp only [List.append_assoc,List.cons_append,List.nil_append,List.pairwise_append,List.pairwise_cons,List.mem_cons] at hp ⊢
          obtain ⟨q1,⟨q2,q3⟩,q4⟩:=hp
          refine ⟨q1,⟨?_,h2,q3⟩,?_⟩
          · rintro z (rfl | hz)
            · exact hyx
            · exact q2 z hz
          · rintro u hu z (rfl | rfl | hz)
            · exact q4 u hu z (.inl rfl)
            · exact (q4 u hu y (.inl rfl)).trans hyx
            · exact q4 u hu z (.inr hz)
theorem ins_l3 (hC:Cmp K f D key) (P Q:List Int) (hn:10001<n):∀ (m:Nat) (S T:List Int),T.length<m→S≠[]→(∀ y∈S,∀ z∈T,y<z)→T.Pairwise (· < ·)→(∀ y∈S++T,D y)→S.Pairwise (R key)→P.length+S.length+T.length≤10000 →
    ∃ S',S'.Perm (S++T)∧S'.Pairwise (R key)∧gZ K n ((P.length:Nat):Int) ((P.length+S.length+T.length:Nat):Int) f m ((P.length+S.length:Nat):Int) (P++S++T++Q)=some (P++S'++Q):=by
  intro m
  induction m with
  | zero=>intro S T h; omega
  | succ m ih =>
    intro S T hm hne hST hT hD hS hl
    simp only [gZ,kA]
    cases T with
    | nil=>exact ⟨S,by simp,hS,by rw [iteF (by simp)]; simp⟩
    | cons x T =>
      simp only [List.length_cons] at hm hl ⊢
      rw [iteT (by omega)]
      rw [List.pairwise_cons] at hT
      obtain ⟨S',p1,p2,p3⟩:=ins_l2 (n:=n) hC P (T++Q) ((P.length+S.length+(T.length+1):Nat):Int) ((P.length+S.length:Nat):Int)
        (gZ K n ((P.length:Nat):Int) ((P.length+S.length+(T.length+1):Nat):Int) f m) n S [] x (by omega) (fun y hy=>⟨hST y hy x (by simp),hD y (by simp [hy])⟩) (hD x (by simp)) (by simpa using hS) (by simp) (by omega)
      have e:P++S++[x]++(T++Q)=P++S++x::T++Q:=by simp
      rw [e] at p3
      rw [p3,wn (k:=P.length+(S.length+1)) (by omega) (by omega)]
      simp only [List.append_nil] at p1
      have hlen:S'.length=S.length+1:=by rw [p1.length_eq]; simp
      have hmem:∀ y,y∈S'↔y=x∨y∈S:=fun y=>by rw [p1.mem_iff]; simp
      obtain ⟨S'',q1,q2,q3⟩:=ih S' T (by omega) (by intro h; subst h; simp at hlen) (fun y hy z hz=>by
          rcases (hmem y).1 hy with rfl | hy
          · exact hT.1 z hz
          · exact hST y hy z (by simp [hz])) hT.2 (fun y hy=>by
          rcases List.mem_append.1 hy with hy | hy
          · rcases (hmem y).1 hy with rfl | hy
            · exact hD y (by simp)
            · exact hD y (by simp [hy])
          · exact hD y (by simp [hy])) p2 (by omega)
      refine ⟨S'',?_,q2,?_⟩
      · refine q1.trans ((p1.append_right T).trans ?_)
        exact (List.perm_middle (l₁:=S) (a:=x) (l₂:=T)).symm
      · rw [hlen,show P.length+(S.length+1)+T.length=P.length+S.length+(T.length+1) by omega,show P++S'++T++Q=P++S'++(T++Q) by simp] at q3
        exact q3
theorem ins_ok (hC:Cmp K f D key) (P S Q:List Int) (hn:10001<n) (hS:S.Pairwise (· < ·)) (hD:∀ y∈S,D y) (hl:P.length+S.length≤10000) :
    ∃ S',S'.Perm S∧S'.Pairwise (R key)∧l7 K n (P++S++Q) ((P.length:Nat):Int) ((P.length+S.length:Nat):Int) f=some (P++S'++Q):=by
  unfold l7
  rw [wn (k:=P.length+1) (by omega) (by omega)]
  cases S with
  | nil =>
    obtain ⟨m,rfl⟩:∃ m,n=m+1:=⟨n - 1,by omega⟩
    refine ⟨[],by simp,by simp,?_⟩
    simp only [gZ,kA]
    rw [iteF (by simp; omega)]
  | cons x T =>
    rw [List.pairwise_cons] at hS
    simp only [List.length_cons] at hl ⊢
    obtain ⟨S',p1,p2,p3⟩:=ins_l3 (n:=n) hC P Q hn n [x] T (by omega) (by simp) (by simpa using hS.1) hS.2 (by simpa using hD) (by simp) (by simp; omega)
    refine ⟨S',by simpa using p1,p2,?_⟩
    simp only [List.length_cons,List.length_nil,Nat.zero_add] at p3
    rw [show P.length+(T.length+1)=P.length+1+T.length by omega,show P++x::T++Q=P++[x]++T++Q by simp]
    exact p3
theorem swap_l1 (P M Q:List Int):∀ (m:Nat) (X1 Y1 X2 Y2:List Int),X2.length<m→X1.length=Y1.length→X2.length=Y2.length→(P++X1++X2++M++Y1++Y2).length≤10000 →
    lY K n ((P.length:Nat):Int) ((P.length+X1.length+X2.length+M.length:Nat):Int) ((X1.length+X2.length:Nat):Int) m ((X1.length:Nat):Int) (P++Y1++X2++M++X1++Y2++Q)=some (P++Y1++Y2++M++X1++X2++Q):=by
  intro m
  induction m with
  | zero=>intro X1 Y1 X2 Y2 h; omega
  | succ m ih =>
    intro X1 Y1 X2 Y2 hm h1 h2 hl
    simp only [lY,oI]
    cases X2 with
    | nil =>
      cases Y2 with
      | nil=>rw [iteF (by simp)]
      | cons=>simp at h2
    | cons x X2 =>
      cases Y2 with
      | nil=>simp at h2
      | cons y Y2 =>
        simp only [List.length_append,List.length_cons] at hm h1 h2 hl ⊢
        rw [iteT (by omega),wn (n:=((P.length+X1.length+(X2.length+1)+M.length:Nat):Int)+((X1.length:Nat):Int)) (k:=P.length+X1.length+(X2.length+1)+M.length+X1.length) (by omega) (by omega),
          wn (n:=((P.length:Nat):Int)+((X1.length:Nat):Int)) (k:=P.length+X1.length) (by omega) (by omega)]
        simp only [List.length_set,List.length_append,List.length_cons]
        rw [aE (by omega),aE (by omega),aE (by omega),aE (by omega)]
        simp only [Int.toNat_natCast]
        have e1:P++Y1++x::X2++M++X1++y::Y2++Q=(P++Y1)++x::(X2++M++X1++y::(Y2++Q)):=by simp
        have e2:P++Y1++x::X2++M++X1++y::Y2++Q=(P++Y1++x::X2++M++X1)++y::(Y2++Q):=by simp
        have g1:List.getD (P++Y1++x::X2++M++X1++y::Y2++Q) (P.length+X1.length) default=x:=by rw [e1]; exact gd (by simp; omega)
        have g2:List.getD (P++Y1++x::X2++M++X1++y::Y2++Q) (P.length+X1.length+(X2.length+1)+M.length+X1.length) default=y:=by rw [e2]; exact gd (by simp; omega)
        rw [g1,g2]
        have s1:List.set (P++Y1++x::X2++M++X1++y::Y2++Q) (P.length+X1.length) y=(P++Y1++y::X2++M++X1)++y::(Y2++Q):=by
          rw [e1,show P.length+X1.length=(P++Y1).length by simp; omega]; simp
        have s2:List.set ((P++Y1++y::X2++M++X1)++y::(Y2++Q)) (P.length+X1.length+(X2.length+1)+M.length+X1.length) x=P++(Y1++[y])++X2++M++(X1++[x])++Y2++Q:=by
          rw [show P.length+X1.length+(X2.length+1)+M.length+X1.length=(P++Y1++y::X2++M++X1).length by simp; omega]; simp
        rw [s1,s2,wn (n:=((X1.length:Nat):Int)+1) (k:=(X1++[x]).length) (by simp) (by simp; omega)]
        have:=ih (X1++[x]) (Y1++[y]) X2 Y2 (by omega) (by simp; omega) (by omega) (by simp; omega)
        simp only [List.length_append,List.length_cons,List.length_nil,Nat.zero_add] at this ⊢
        rw [show P.length+X1.length+(X2.length+1)+M.length=P.length+(X1.length+1)+X2.length+M.length by omega,show X1.length+(X2.length+1)=X1.length+1+X2.length by omega,this]
        simp
theorem swap_ok (P X M Y Q:List Int) (hXY:X.length=Y.length) (hl:(P++X++M++Y).length≤10000) (hn:10001<n) {b k:Int} (hb:b=((P.length+X.length+M.length:Nat):Int)) (hk:k=((X.length:Nat):Int)) :
    jS K n (P++X++M++Y++Q) ((P.length:Nat):Int) b k f=some (P++Y++M++X++Q):=by
  subst hb; subst hk
  unfold jS
  have:=swap_l1 (K:=K) (n:=n) P M Q n [] [] X Y (by simp at hl; omega) rfl hXY (by simpa using hl)
  simpa using this
theorem rot_l2 (hn:10001<n) (mid:Nat):∀ (m:Nat) (P U V Q:List Int),U.length+V.length<m→P.length+U.length=mid→0<U.length→0<V.length→(P++U++V).length≤10000 →
    km K n (mid:Int) f m ((U.length:Nat):Int) ((V.length:Nat):Int) (P++U++V++Q)=some (P++V++U++Q):=by
  intro m
  induction m with
  | zero=>intro P U V Q h; omega
  | succ m ih =>
    intro P U V Q hm hmid hU hV hl
    simp only [List.length_append] at hl
    simp only [km,nk]
    rw [wn (n:=(mid:Int) - ((U.length:Nat):Int)) (k:=P.length) (by omega) (by omega)]
    by_cases he:U.length=V.length
    · rw [if_neg (by simp; omega)]
      have:=swap_ok (K:=K) (n:=n) (f:=f) P U [] V Q he (by simp; omega) hn (b:=(mid:Int)) (k:=((U.length:Nat):Int)) (by simp; omega) rfl
      simp only [List.append_nil] at this
      rw [this,sb]
    · rw [if_pos (by simp; omega)]
      by_cases hgt:U.length>V.length
      · rw [iteT (by omega),wn (n:=((U.length:Nat):Int) - ((V.length:Nat):Int)) (k:=U.length - V.length) (by omega) (by omega)]
        -- U=U1++U2 with |U1| = |V|
        obtain ⟨U1,U2,rfl,hu⟩:∃ U1 U2,U=U1++U2∧U1.length=V.length:=⟨U.take V.length,U.drop V.length,by simp,by simp; omega⟩
        simp only [List.length_append] at hmid hU hl hm hgt he ⊢
        have:=swap_ok (K:=K) (n:=n) (f:=f) P U1 U2 V Q hu (by simp; omega) hn (b:=(mid:Int)) (k:=((V.length:Nat):Int)) (by simp; omega) (by omega)
        rw [show P++(U1++U2)++V++Q=P++U1++U2++V++Q by simp,this,sb]
        simp only [mH]
        have h2:=ih (P++V) U2 U1 Q (by omega) (by simp; omega) (by omega) (by omega) (by simp; omega)
        rw [show U1.length+U2.length - V.length=U2.length by omega,← hu,h2]
        simp
      · rw [iteF (by omega),wn (n:=(mid:Int)+((V.length:Nat):Int)) (k:=mid+V.length) (by omega) (by omega),wn (n:=((mid+V.length:Nat):Int) - ((U.length:Nat):Int)) (k:=mid+V.length - U.length) (by omega) (by omega),
          wn (n:=((V.length:Nat):Int) - ((U.length:Nat):Int)) (k:=V.length - U.length) (by omega) (by omega)]
        obtain ⟨V1,V2,rfl,hv⟩:∃ V1 V2,V=V1++V2∧V2.length=U.length:=⟨V.take (V.length - U.length),V.drop (V.length - U.length),by simp,by simp; omega⟩
        simp only [List.length_append] at hl hm hgt he hV ⊢
        have:=swap_ok (K:=K) (n:=n) (f:=f) P U V1 V2 Q (by omega) (by simp; omega) hn (b:=((mid+(V1.length+V2.length) - U.length:Nat):Int)) (k:=((U.length:Nat):Int)) (by omega) rfl
        rw [show P++U++(V1++V2)++Q=P++U++V1++V2++Q by simp,this,sb]
        simp only [mH]
        have h2:=ih P V2 V1 (U++Q) (by omega) (by omega) (by omega) (by omega) (by simp; omega)
        rw [show V1.length+V2.length - U.length=V1.length by omega,← hv,show P++V2++V1++U++Q=P++V2++V1++(U++Q) by simp,h2]
        simp
theorem rot_ok (P U V Q:List Int) (hn:10001<n) (hU:0<U.length) (hV:0<V.length) (hl:(P++U++V).length≤10000) :
    ob K n (P++U++V++Q) ((P.length:Nat):Int) ((P.length+U.length:Nat):Int) ((P.length+U.length+V.length:Nat):Int) f=some (P++V++U++Q):=by
  unfold ob
  simp only [List.length_append] at hl
  rw [wn (k:=U.length) (by omega) (by omega),wn (k:=V.length) (by omega) (by omega)]
  exact rot_l2 hn _ n P U V Q (by omega) rfl hU hV (by simp; omega)
end Go.Proofs.Ytolhpahjgddjkaa.QSort
namespace Go.Proofs.Ytolhpahjgddjkaa.QSort
set_option linter.all false
open Go.RowKit
variable {K:Kn} {n:Nat} {f:Fv} {D:Int→Prop} {key:Int→Int}
def at_ (L:List Int) (k:Nat):Int:=L.getD k default
theorem at_app {P A Q:List Int} {k:Nat} (h:k<A.length) {i:Nat} (hi:i=P.length+k):(P++A++Q).getD i default=at_ A k:=by
  subst hi
  simp [at_,List.getD_eq_getElem?_getD,List.getElem?_append,h,show ¬ (P.length+k<P.length) by omega]
theorem nj {A:List Int} {k:Nat} (h:k<A.length):at_ A k∈A:=by unfold at_; rw [bO h]; exact List.getElem_mem _
theorem mem_at {A:List Int} {x:Int} (h:x∈A):∃ k,k<A.length∧at_ A k=x:=by
  obtain ⟨k,hk,e⟩:=List.getElem_of_mem h
  exact ⟨k,hk,by unfold at_; rw [bO hk,e]⟩
theorem cC {r:Int→Int→Prop} {A:List Int} (h:A.Pairwise r) {i j:Nat} (hij:i<j) (hj:j<A.length):r (at_ A i) (at_ A j):=by
  unfold at_; rw [bO (by omega:i<A.length),bO hj]
  exact List.pairwise_iff_getElem.1 h i j (by omega) hj hij
theorem at_take {A:List Int} {t k:Nat} (h:k<t):at_ (A.take t) k=at_ A k:=by simp [at_,List.getD_eq_getElem?_getD,List.getElem?_take,h]
theorem at_drop {A:List Int} {t k:Nat}:at_ (A.drop t) k=at_ A (t+k):=by simp [at_,List.getD_eq_getElem?_getD]
theorem qw {A:List Int} {t:Nat} {x:Int} (h:x∈A.take t):∃ k,k<t∧k<A.length∧at_ A k=x:=by
  obtain ⟨k,hk,e⟩:=mem_at h
  simp at hk
  exact ⟨k,by omega,by omega,by rw [←e,at_take (by omega)]⟩
theorem px {A:List Int} {t:Nat} {x:Int} (h:x∈A.drop t):∃ k,t≤k∧k<A.length∧at_ A k=x:=by
  obtain ⟨k,hk,e⟩:=mem_at h
  simp at hk
  exact ⟨t+k,by omega,by omega,by rw [←e,at_drop]⟩
theorem put_in {x:Int} {B:List Int} {t:Nat} (hB:B.Pairwise (R key)) (h1:∀ k,k<t→k<B.length→R key (at_ B k) x) (h2:∀ k,t≤k→k<B.length→R key x (at_ B k)):(B.take t++x::B.drop t).Pairwise (R key):=by
  rw [List.pairwise_append,List.pairwise_cons]
  refine ⟨hB.take,⟨fun y hy=>?_,hB.drop⟩,fun u hu v hv=>?_⟩
  · obtain ⟨k,k1,k2,rfl⟩:=px hy; exact h2 k k1 k2
  · obtain ⟨i,i1,i2,rfl⟩:=qw hu
    rcases List.mem_cons.1 hv with rfl | hv
    · exact h1 i i1 i2
    · obtain ⟨k,k1,k2,rfl⟩:=px hv; exact cC hB (by omega) k2
theorem go_right (v:Int):∀ (m:Nat) (P X Q:List Int) (x:Int),X.length<m→(P++X).length≤10000→v=((P.length+X.length+1:Nat):Int) →
    jb K n v m ((P.length:Nat):Int) (P++x::X++Q)=some (P++X++x::Q):=by
  intro m
  induction m with
  | zero=>intro P X Q x h; omega
  | succ m ih =>
    intro P X Q x hm hl hv
    subst hv
    simp only [List.length_append] at hl
    simp only [jb,oJ]
    rw [wn (n:=((P.length+X.length+1:Nat):Int) - 1) (k:=P.length+X.length) (by omega) (by omega)]
    cases X with
    | nil=>rw [iteF (by simp)]; simp
    | cons y X =>
      simp only [List.length_cons] at *
      rw [iteT (by omega),wn (n:=((P.length:Nat):Int)+1) (k:=P.length+1) (by omega) (by omega)]
      simp only [List.length_set,List.length_append,List.length_cons]
      rw [aE (by omega),aE (by omega),aE (by omega),aE (by omega)]
      simp only [Int.toNat_natCast]
      rw [show P++x::y::X++Q=P++x::y::(X++Q) by simp,gd1 rfl,gd rfl,sw' rfl rfl]
      have:=ih (P++[y]) X Q x (by omega) (by simp; omega) (by simp; omega)
      simp only [List.length_append,List.length_cons,List.length_nil,Nat.zero_add] at this
      rw [show P++y::x::(X++Q)=P++[y]++x::X++Q by simp,this]
      simp
theorem go_left (v:Int):∀ (m:Nat) (P X Q:List Int) (x:Int),X.length<m→(P++X).length≤10000→v=((P.length:Nat):Int) →
    jh K n v m ((P.length+X.length:Nat):Int) (P++X++x::Q)=some (P++x::X++Q):=by
  intro m
  induction m with
  | zero=>intro P X Q x h; omega
  | succ m ih =>
    intro P X Q x hm hl hv
    subst hv
    simp only [List.length_append] at hl
    simp only [jh,nW]
    rcases List.eq_nil_or_concat X with rfl | ⟨X,y,rfl⟩
    · rw [iteF (by simp)]; simp
    · simp only [List.concat_eq_append] at *
      simp only [List.length_append,List.length_cons,List.length_nil] at *
      rw [iteT (by omega),wn (n:=((P.length+(X.length+(0+1)):Nat):Int) - 1) (k:=P.length+X.length) (by omega) (by omega)]
      simp only [List.length_set,List.length_append,List.length_cons,List.length_nil]
      rw [aE (by omega),aE (by omega),aE (by omega),aE (by omega)]
      simp only [Int.toNat_natCast]
      rw [show P++(X++[y])++x::Q=(P++X)++y::x::Q by simp,gd1 (i:=P.length+(X.length+(0+1))) (by simp; omega),gd (i:=P.length+X.length) (by simp),sw (by simp) (by simp; omega)]
      have:=ih P X (y::Q) x (by omega) (by omega) rfl
      rw [this]
      simp
theorem one_left (hC:Cmp K f D key) (P B Q:List Int) (x:Int) (hB:B.Pairwise (R key)) (hx:D x) (hD:∀ y∈B,D y∧x<y) (hl:P.length+1+B.length≤10000):∀ (m i j:Nat),j - i<m→i≤j→j≤B.length→(∀ k,k<i→R key (at_ B k) x)→(∀ k,j≤k→k<B.length→R key x (at_ B k)) →
    ∃ t,t≤B.length∧(∀ k,k<t→R key (at_ B k) x)∧(∀ k,t≤k→k<B.length→R key x (at_ B k))∧ln K n (P++[x]++B++Q) ((P.length:Nat):Int) f m ((P.length+1+i:Nat):Int) ((P.length+1+j:Nat):Int)=jb K n ((P.length+1+t:Nat):Int) n ((P.length:Nat):Int) (P++[x]++B++Q):=by
  intro m
  induction m with
  | zero=>intro i j h; omega
  | succ m ih =>
    intro i j hm hij hj h1 h2
    simp only [ln,nI]
    by_cases he:i<j
    · rw [iteT (by omega),half (by omega),sb]
      obtain ⟨h,hh,e⟩:∃ h,(i≤h∧h<j)∧(P.length+1+i+(P.length+1+j)) / 2=P.length+1+h:=⟨(P.length+1+i+(P.length+1+j)) / 2 - (P.length+1),by omega,by omega⟩
      rw [e]
      have hlen:(P++[x]++B++Q).length=P.length+1+B.length+Q.length:=by simp; omega
      rw [aE (by omega),aE (by omega)]
      simp only [Int.toNat_natCast]
      rw [at_app (P:=P++[x]) (k:=h) (by omega) (by simp),show (P++[x]++B++Q).getD P.length default=x by rw [show P++[x]++B++Q=P++x::(B++Q) by simp]; exact gd rfl]
      have hb:=hD _ (nj (A:=B) (k:=h) (by omega))
      obtain ⟨c,hc,hlt⟩:=hC.ok (at_ B h) x hb.1 hx
      rw [hc,sb]
      simp only [ot]
      have hR:c<0↔R key (at_ B h) x:=hlt.trans (R.of_lt hb.2)
      by_cases hr:c<0
      · rw [iteT hr,wn (n:=((P.length+1+h:Nat):Int)+1) (k:=P.length+1+(h+1)) (by omega) (by omega)]
        refine ih (h+1) j (by omega) (by omega) hj (fun k hk=>?_) h2
        rcases Nat.lt_or_ge k h with hk2 | hk2
        · exact (cC hB hk2 (by omega)).trans (hR.1 hr)
        · obtain rfl:k=h:=by omega
          exact hR.1 hr
      · rw [iteF hr]
        refine ih i h (by omega) (by omega) (by omega) h1 (fun k hk hk2=>?_)
        have hxh:R key x (at_ B h):=R.not (by omega) (fun hh=>hr (hR.2 hh))
        rcases Nat.lt_or_ge h k with hk3 | hk3
        · exact hxh.trans (cC hB hk3 hk2)
        · obtain rfl:k=h:=by omega
          exact hxh
    · obtain rfl:i=j:=by omega
      exact ⟨i,hj,h1,h2,by rw [iteF (by omega)]⟩
theorem one_right (hC:Cmp K f D key) (P A Q:List Int) (x:Int) (hA:A.Pairwise (R key)) (hx:D x) (hD:∀ y∈A,D y∧y<x) (hl:P.length+1+A.length≤10000):∀ (m i j:Nat),j - i<m→i≤j→j≤A.length→(∀ k,k<i→R key (at_ A k) x)→(∀ k,j≤k→k<A.length→R key x (at_ A k)) →
    ∃ t,t≤A.length∧(∀ k,k<t→R key (at_ A k) x)∧(∀ k,t≤k→k<A.length→R key x (at_ A k))∧kQ K n (P++A++x::Q) ((P.length+A.length:Nat):Int) f m ((P.length+i:Nat):Int) ((P.length+j:Nat):Int)=jh K n ((P.length+t:Nat):Int) n ((P.length+A.length:Nat):Int) (P++A++x::Q):=by
  intro m
  induction m with
  | zero=>intro i j h; omega
  | succ m ih =>
    intro i j hm hij hj h1 h2
    simp only [kQ,pk]
    by_cases he:i<j
    · rw [iteT (by omega),half (by omega),sb]
      obtain ⟨h,hh,e⟩:∃ h,(i≤h∧h<j)∧(P.length+i+(P.length+j)) / 2=P.length+h:=⟨(P.length+i+(P.length+j)) / 2 - P.length,by omega,by omega⟩
      rw [e]
      have hlen:(P++A++x::Q).length=P.length+A.length+Q.length+1:=by simp; omega
      rw [aE (by omega),aE (by omega)]
      simp only [Int.toNat_natCast]
      rw [at_app (P:=P) (A:=A) (k:=h) (by omega) rfl,gd (A:=P++A) (by simp)]
      have hb:=hD _ (nj (A:=A) (k:=h) (by omega))
      obtain ⟨c,hc,hlt⟩:=hC.ok x (at_ A h) hx hb.1
      rw [hc,sb]
      simp only [nU]
      have hR:c<0↔R key x (at_ A h):=hlt.trans (R.of_lt hb.2)
      by_cases hr:c<0
      · rw [iteC hr]
        refine ih i h (by omega) (by omega) (by omega) h1 (fun k hk hk2=>?_)
        rcases Nat.lt_or_ge h k with hk3 | hk3
        · exact (hR.1 hr).trans (cC hA hk3 hk2)
        · obtain rfl:k=h:=by omega
          exact hR.1 hr
      · rw [iteB hr,wn (n:=((P.length+h:Nat):Int)+1) (k:=P.length+(h+1)) (by omega) (by omega)]
        refine ih (h+1) j (by omega) (by omega) hj (fun k hk=>?_) h2
        have hxh:R key (at_ A h) x:=R.not (by omega) (fun hh=>hr (hR.2 hh))
        rcases Nat.lt_or_ge k h with hk2 | hk2
        · exact (cC hA hk2 (by omega)).trans hxh
        · obtain rfl:k=h:=by omega
          exact hxh
    · obtain rfl:i=j:=by omega
      exact ⟨i,hj,h1,h2,by rw [iteF (by omega)]⟩
end Go.Proofs.Ytolhpahjgddjkaa.QSort
namespace Go.Proofs.Ytolhpahjgddjkaa.QSort
set_option linter.all false
open Go.RowKit
variable {K:Kn} {n:Nat} {f:Fv} {D:Int→Prop} {key:Int→Int}
structure Mg (key:Int→Int) (D:Int→Prop) (A B:List Int):Prop where
  l:A.Pairwise (R key)
  r:B.Pairwise (R key)
  lt:∀ x∈A,∀ y∈B,x<y
  d:∀ x∈A++B,D x
def Merges (key:Int→Int) (D:Int→Prop) (N:Nat) (g:List Int→Int→Int→Int→Option (List Int)):Prop :=
  ∀ P A B Q:List Int,0<A.length→0<B.length→A.length+B.length<N→(P++A++B).length≤10000→Mg key D A B →
    ∃ C,C.Perm (A++B)∧C.Pairwise (R key)∧g (P++A++B++Q) ((P.length:Nat):Int) ((P.length+A.length:Nat):Int) ((P.length+A.length+B.length:Nat):Int)=some (P++C++Q)
theorem part (g:List Int→Int→Int→Int→Option (List Int)) {N:Nat} (hg:Merges key D N g) (P A B Q:List Int) (hN:A.length+B.length<N) (hl:(P++A++B).length≤10000) (h:Mg key D A B) :
    ∃ C,C.Perm (A++B)∧C.Pairwise (R key)∧∀ (k:List Int→Option (List Int)),(if 0<A.length∧0<B.length then (g (P++A++B++Q) ((P.length:Nat):Int) ((P.length+A.length:Nat):Int) ((P.length+A.length+B.length:Nat):Int)).bind k else k (P++A++B++Q))=k (P++C++Q):=by
  by_cases hc:0<A.length∧0<B.length
  · obtain ⟨C,h1,h2,h3⟩:=hg P A B Q hc.1 hc.2 hN hl h
    exact ⟨C,h1,h2,fun k=>by rw [if_pos hc,h3]; rfl⟩
  · refine ⟨A++B,.refl _,?_,fun k=>by rw [if_neg hc]; simp⟩
    rcases A with _ | ⟨x,A⟩
    · simpa using h.r
    · rcases B with _ | ⟨y,B⟩
      · simpa using h.l
      · simp at hc
theorem tail_ok {N:Nat} (hn:10001<n) (P A1 A2 B1 B2 Q:List Int) (hg:Merges key D N (fun L a m b=>K.fT L a m b f)) (h:Mg key D (A1++A2) (B1++B2)) (hl:(P++A1++A2++B1++B2).length≤10000)
    (hN1:A1.length+B1.length<N) (hN2:A2.length+B2.length<N) (c1:∀ x∈A1,∀ y∈B2,R key x y) (c2:∀ x∈B1,∀ y∈A2,R key x y) {v2 v3 v4 v30 v31 v39:Int} (e2:v2=((P.length:Nat):Int)) (e3:v3=((P.length+A1.length+A2.length:Nat):Int)) (e4:v4=((P.length+A1.length+A2.length+B1.length+B2.length:Nat):Int))
    (e30:v30=((P.length+A1.length+B1.length:Nat):Int)) (e31:v31=((P.length+A1.length+B1.length+(P.length+A1.length+A2.length):Nat):Int)) (e39:v39=((P.length+A1.length:Nat):Int)) :
    ∃ C,C.Perm (A1++A2++(B1++B2))∧C.Pairwise (R key)∧(if (decide (v39<v3))=true then
      eJ K n (P++A1++A2++B1++B2++Q) v2 v3 v4 f v30 v31 v39 (decide (v3<(w64 (v31 - v39))))
    else
      eJ K n (P++A1++A2++B1++B2++Q) v2 v3 v4 f v30 v31 v39 false)=some (P++C++Q):=by
  simp only [List.length_append] at hl
  have e5:w64 (v31 - v39)=((P.length+A1.length+A2.length+B1.length:Nat):Int):=by rw [e31,e39]; exact wn (by omega) (by omega)
  have hpl:=List.pairwise_append.1 h.l
  have hpr:=List.pairwise_append.1 h.r
  -- the parts change places
  have rot:(if (decide (v39<v3))=true then
      eJ K n (P++A1++A2++B1++B2++Q) v2 v3 v4 f v30 v31 v39 (decide (v3<(w64 (v31 - v39))))
    else
      eJ K n (P++A1++A2++B1++B2++Q) v2 v3 v4 f v30 v31 v39 false)=jB K n v2 v4 f v30 v31 v39 (P++A1++B1++A2++B2++Q):=by
    rw [e5]
    have both:∀ b:Bool,(b=true↔0<A2.length∧0<B1.length)→eJ K n (P++A1++A2++B1++B2++Q) v2 v3 v4 f v30 v31 v39 b=jB K n v2 v4 f v30 v31 v39 (P++A1++B1++A2++B2++Q):=by
      intro b hb
      unfold eJ
      by_cases hc:b=true
      · rw [if_pos hc,e5]
        have hc2:=hb.1 hc
        have:=rot_ok (K:=K) (n:=n) (f:=f) (P++A1) A2 B1 (B2++Q) hn hc2.1 hc2.2 (by simp; omega)
        rw [show P++A1++A2++B1++B2++Q=P++A1++A2++B1++(B2++Q) by simp,e39,e3]
        rw [show ((P++A1).length:Nat)=P.length+A1.length by simp] at this
        rw [this,sb]
        congr 1; simp
      · rw [if_neg hc]
        have hc2:¬ (0<A2.length∧0<B1.length):=fun hh=>hc (hb.2 hh)
        congr 1
        rcases A2 with _ | ⟨x,A2⟩
        · simp
        · rcases B1 with _ | ⟨y,B1⟩
          · simp
          · simp at hc2
    by_cases hc:v39<v3
    · rw [iteT hc]
      exact both _ (by rw [decide_eq_true_eq]; omega)
    · rw [iteF hc]
      exact both _ (by simp; omega)
  rw [rot]
  -- the first half
  have m1:Mg key D A1 B1:=⟨hpl.1,hpr.1,fun x hx y hy=>h.lt x (by simp [hx]) y (by simp [hy]),fun x hx=>h.d x (by rcases List.mem_append.1 hx with q | q<;>simp [q])⟩
  have m2:Mg key D A2 B2:=⟨hpl.2.1,hpr.2.1,fun x hx y hy=>h.lt x (by simp [hx]) y (by simp [hy]),fun x hx=>h.d x (by rcases List.mem_append.1 hx with q | q<;>simp [q])⟩
  obtain ⟨C1,p1,s1,r1⟩:=part _ hg P A1 B1 (A2++B2++Q) hN1 (by simp; omega) m1
  have l1:C1.length=A1.length+B1.length:=by rw [p1.length_eq]; simp
  obtain ⟨C2,p2,s2,r2⟩:=part _ hg (P++C1) A2 B2 Q hN2 (by simp; omega) m2
  refine ⟨C1++C2,?_,?_,?_⟩
  · refine (p1.append p2).trans ?_
    simp only [List.append_assoc]
    refine List.Perm.append_left A1 ?_
    rw [←List.append_assoc,← List.append_assoc]
    exact List.perm_append_comm.append_right B2
  · rw [List.pairwise_append]
    refine ⟨s1,s2,fun x hx y hy=>?_⟩
    have hx:=(p1.mem_iff).1 hx
    have hy:=(p2.mem_iff).1 hy
    rcases List.mem_append.1 hx with hx | hx
    · rcases List.mem_append.1 hy with hy | hy
      · exact hpl.2.2 x hx y hy
      · exact c1 x hx y hy
    · rcases List.mem_append.1 hy with hy | hy
      · exact c2 x hx y hy
      · exact hpr.2.2 x hx y hy
  · -- the calls
    have j13:gi K n v4 f v30 v31 v39 (P++C1++A2++B2++Q)=some (P++C1++C2++Q):=by
      have:=r2 (fun L=>some L)
      rw [←this]
      unfold gi
      rw [e5,e30,e4]
      have k1:(P++C1).length=P.length+A1.length+B1.length:=by simp [l1]; omega
      rw [k1]
      have both:∀ b:Bool,(b=true↔0<A2.length∧0<B2.length)→kj K n ((P.length+A1.length+A2.length+B1.length+B2.length:Nat):Int) f ((P.length+A1.length+B1.length:Nat):Int) v31 v39 (P++C1++A2++B2++Q) b=if 0<A2.length∧0<B2.length then
          (K.fT (P++C1++A2++B2++Q) ((P.length+A1.length+B1.length:Nat):Int) ((P.length+A1.length+B1.length+A2.length:Nat):Int) ((P.length+A1.length+B1.length+A2.length+B2.length:Nat):Int) f).bind (fun L=>some L) else some (P++C1++A2++B2++Q):=by
        intro b hb
        unfold kj
        by_cases hc:b=true
        · rw [if_pos hc,if_pos (hb.1 hc),e5]
          simp only [n7]
          rw [show P.length+A1.length+B1.length+A2.length=P.length+A1.length+A2.length+B1.length by omega]
        · rw [if_neg hc,if_neg (fun hh=>hc (hb.2 hh))]; rfl
      by_cases hc:((P.length+A1.length+B1.length:Nat):Int)<((P.length+A1.length+A2.length+B1.length:Nat):Int)
      · rw [iteT hc]; exact both _ (by rw [decide_eq_true_eq]; omega)
      · rw [iteF hc]; exact both _ (by simp; omega)
    have:=r1 (fun L=>gi K n v4 f v30 v31 v39 L)
    rw [show P++C1++(A2++B2++Q)=P++C1++A2++B2++Q by simp,j13] at this
    rw [show P++(C1++C2)++Q=P++C1++C2++Q by simp,← this]
    unfold jB
    rw [e2,e39,e30]
    rw [show P++A1++B1++(A2++B2++Q)=P++A1++B1++A2++B2++Q by simp]
    have both : ∀ b : Bool, (b = true ↔ 0 < A1.length ∧ 0 < B1.length) → mr K n ((P.length : Nat) : Int) v4 f ((P.length + A1.length + B1.length : Nat) : Int) v31 ((P.length + A1.length : Nat) : Int) (P ++ A1 ++ B1 ++ A2 ++ B2 ++ Q) b = if 0 < A1.length ∧ 0 < B1.length then
          (K.fT (P++A1++B1++A2++B2++Q) ((P.length:Nat):Int) ((P.length+A1.length:Nat):Int) ((P.length+A1.length+B1.length:Nat):Int) f).bind (fun L=>gi K n v4 f ((P.length+A1.length+B1.length:Nat):Int) v31 ((P.length+A1.length:Nat):Int) L) else gi K n v4 f ((P.length+A1.length+B1.length:Nat):Int) v31 ((P.length+A1.length:Nat):Int) (P++A1++B1++A2++B2++Q):=by
      intro b hb
      unfold mr
      by_cases hc:b=true
      · rw [if_pos hc,if_pos (hb.1 hc)]
      · rw [if_neg hc,if_neg (fun hh=>hc (hb.2 hh))]
    by_cases hc:((P.length:Nat):Int)<((P.length+A1.length:Nat):Int)
    · rw [iteT hc]; exact both _ (by rw [decide_eq_true_eq]; omega)
    · rw [iteF hc]; exact both _ (by simp; omega)
theorem seek (hC:Cmp K f D key) (P A B Q:List Int) (h:Nat) (hM:Mg key D A B) (hl:(P++A++B).length≤10000) {v2 v4 v30:Int} (hh:h<A.length+B.length) (lo hi:Nat) (hlo:h≤B.length+lo) (hhi:hi≤A.length) (hhi2:hi≤h):∀ (m i j:Nat),j - i<m→lo≤i→i≤j→j≤hi →
    (∀ k,lo≤k→k<i→R key (at_ A k) (at_ B (h - 1 - k)))→(∀ k,j≤k→k<hi→R key (at_ B (h - 1 - k)) (at_ A k)) →
    ∃ s,lo≤s∧s≤hi∧(∀ k,lo≤k→k<s→R key (at_ A k) (at_ B (h - 1 - k)))∧(∀ k,s≤k→k<hi→R key (at_ B (h - 1 - k)) (at_ A k)) ∧
      iU K n (P++A++B++Q) v2 ((P.length+A.length:Nat):Int) v4 f v30 ((P.length+h+(P.length+A.length):Nat):Int) m ((P.length+i:Nat):Int) ((P.length+j:Nat):Int) =
      (if (decide (((P.length+s:Nat):Int)<((P.length+A.length:Nat):Int)))=true then
        eJ K n (P++A++B++Q) v2 ((P.length+A.length:Nat):Int) v4 f v30 ((P.length+h+(P.length+A.length):Nat):Int) ((P.length+s:Nat):Int) (decide (((P.length+A.length:Nat):Int)<(w64 (((P.length+h+(P.length+A.length):Nat):Int) - ((P.length+s:Nat):Int)))))
      else
        eJ K n (P++A++B++Q) v2 ((P.length+A.length:Nat):Int) v4 f v30 ((P.length+h+(P.length+A.length):Nat):Int) ((P.length+s:Nat):Int) false):=by
  simp only [List.length_append] at hl
  intro m
  induction m with
  | zero=>intro i j h; omega
  | succ m ih =>
    intro i j hm hli hij hj h1 h2
    simp only [iU,o8]
    by_cases he:i<j
    · rw [iteT (by omega),half (by omega),sb]
      obtain ⟨c,hc,e⟩:∃ c,(i≤c∧c<j)∧(P.length+i+(P.length+j)) / 2=P.length+c:=⟨(P.length+i+(P.length+j)) / 2 - P.length,by omega,by omega⟩
      rw [e,wn (n:=((P.length+h+(P.length+A.length):Nat):Int) - 1) (k:=P.length+h+(P.length+A.length) - 1) (by omega) (by omega),
        wn (n:=((P.length+h+(P.length+A.length) - 1:Nat):Int) - ((P.length+c:Nat):Int)) (k:=P.length+A.length+(h - 1 - c)) (by omega) (by omega)]
      have hlen:(P++A++B++Q).length=P.length+A.length+B.length+Q.length:=by simp; omega
      rw [aE (by omega),aE (by omega)]
      simp only [Int.toNat_natCast]
      rw [at_app (P:=P++A) (A:=B) (k:=h - 1 - c) (by omega) (by simp),show P++A++B++Q=P++A++(B++Q) by simp,at_app (P:=P) (A:=A) (k:=c) (by omega) rfl,show P++A++(B++Q)=P++A++B++Q by simp]
      have ma:=nj (A:=A) (k:=c) (by omega)
      have mb:=nj (A:=B) (k:=h - 1 - c) (by omega)
      have hlt2:=hM.lt _ ma _ mb
      obtain ⟨r,hr,hlt⟩:=hC.ok (at_ B (h - 1 - c)) (at_ A c) (hM.d _ (by simp [mb])) (hM.d _ (by simp [ma]))
      rw [hr,sb]
      simp only [pC]
      have hR:r<0↔R key (at_ B (h - 1 - c)) (at_ A c):=hlt.trans (R.of_lt hlt2)
      by_cases hr0:r<0
      · rw [iteC hr0]
        refine ih i c (by omega) hli (by omega) (by omega) h1 (fun k hk hk2=>?_)
        rcases Nat.lt_or_ge c k with hk3 | hk3
        · exact ((cC hM.r (i:=h - 1 - k) (j:=h - 1 - c) (by omega) (by omega)).trans (hR.1 hr0)).trans (cC hM.l hk3 (by omega))
        · obtain rfl:k=c:=by omega
          exact hR.1 hr0
      · rw [iteB hr0,wn (n:=((P.length+c:Nat):Int)+1) (k:=P.length+(c+1)) (by omega) (by omega)]
        refine ih (c+1) j (by omega) (by omega) (by omega) hj (fun k hk0 hk=>?_) h2
        have hxh:R key (at_ A c) (at_ B (h - 1 - c)):=R.not (by omega) (fun hh=>hr0 (hR.2 hh))
        rcases Nat.lt_or_ge k c with hk2 | hk2
        · exact ((cC hM.l hk2 (by omega)).trans hxh).trans (cC hM.r (i:=h - 1 - c) (j:=h - 1 - k) (by omega) (by omega))
        · obtain rfl:k=c:=by omega
          exact hxh
    · obtain rfl:i=j:=by omega
      exact ⟨i,hli,hj,h1,h2,by rw [iteF (by omega)]⟩
theorem merge_one (hC:Cmp K f D key) {N:Nat} (hn:10001<n) (hg:Merges key D N (fun L a m b=>K.fT L a m b f)):Merges key D (N+1) (fun L a m b=>fg K n L a m b f):=by
  intro P A B Q hA hB hN hl hM
  have hl2:=hl
  simp only [List.length_append] at hl2
  simp only [fg]
  rw [wn (n:=((P.length+A.length:Nat):Int) - ((P.length:Nat):Int)) (k:=A.length) (by omega) (by omega)]
  by_cases h1:A.length=1
  · rw [if_pos (by simp; omega)]
    obtain ⟨x,rfl⟩:∃ x,A=[x]:=by
      rcases A with _ | ⟨x,_ | ⟨y,A⟩⟩
      · simp at h1
      · exact ⟨x,rfl⟩
      · simp at h1
    simp only [List.length_cons,List.length_nil,Nat.zero_add] at *
    obtain ⟨t,t1,t2,t3,t4⟩:=one_left (n:=n) hC P B Q x hM.r (hM.d x (by simp)) (fun y hy=>⟨hM.d y (by simp [hy]),hM.lt x (by simp) y hy⟩) (by omega) n 0 B.length (by omega) (by omega) (Nat.le_refl _) (fun k hk=>by omega) (fun k hk hk2=>by omega)
    rw [show P.length+1+0=P.length+1 from rfl] at t4
    rw [t4]
    have:=go_right (K:=K) (n:=n) ((P.length+1+t:Nat):Int) n P (B.take t) (B.drop t++Q) x (by simp; omega) (by simp; omega) (by simp; omega)
    rw [show P++x::B.take t++(B.drop t++Q)=P++[x]++(B.take t++B.drop t)++Q by simp only [List.append_assoc,List.cons_append,List.nil_append],List.take_append_drop] at this
    refine ⟨B.take t++x::B.drop t,?_,put_in hM.r (fun k hk _=>t2 k hk) t3,by rw [this]; simp⟩
    refine List.perm_middle.trans (by simp)
  · rw [if_neg (by simp; omega)]
    rw [wn (n:=((P.length+A.length+B.length:Nat):Int) - ((P.length+A.length:Nat):Int)) (k:=B.length) (by omega) (by omega)]
    by_cases h2:B.length=1
    · rw [if_pos (by simp; omega)]
      obtain ⟨x,rfl⟩:∃ x,B=[x]:=by
        rcases B with _ | ⟨x,_ | ⟨y,B⟩⟩
        · simp at h2
        · exact ⟨x,rfl⟩
        · simp at h2
      obtain ⟨t,t1,t2,t3,t4⟩:=one_right (n:=n) hC P A Q x hM.l (hM.d x (by simp)) (fun y hy=>⟨hM.d y (by simp [hy]),hM.lt y hy x (by simp)⟩) (by simp at hl2; omega) n 0 A.length (by simp at hl2; omega) (by omega) (Nat.le_refl _) (fun k hk=>by omega) (fun k hk hk2=>by omega)
      rw [Nat.add_zero] at t4
      rw [show P++A++[x]++Q=P++A++x::Q by simp,t4]
      have:=go_left (K:=K) (n:=n) ((P.length+t:Nat):Int) n (P++A.take t) (A.drop t) Q x (by simp at hl2 ⊢; omega) (by simp at hl2 ⊢; omega) (by simp; omega)
      rw [show P++A.take t++A.drop t++x::Q=P++(A.take t++A.drop t)++x::Q by simp only [List.append_assoc],List.take_append_drop,show (P++A.take t).length+(A.drop t).length=P.length+A.length by simp; omega] at this
      refine ⟨A.take t++x::A.drop t,?_,put_in hM.l (fun k hk _=>t2 k hk) t3,by rw [this]; simp⟩
      refine List.perm_middle.trans ?_
      rw [List.take_append_drop]; exact (List.perm_append_singleton x A).symm
    · rw [if_neg (by simp; omega),half (by omega),sb]
      obtain ⟨h,hh,e⟩:∃ h,(2*h≤A.length+B.length∧A.length+B.length≤2*h+1)∧(P.length+(P.length+A.length+B.length)) / 2=P.length+h:=⟨(P.length+(P.length+A.length+B.length)) / 2 - P.length,by omega,by omega⟩
      rw [e,wn (n:=((P.length+h:Nat):Int)+((P.length+A.length:Nat):Int)) (k:=P.length+h+(P.length+A.length)) (by omega) (by omega),sb,sb]
      have key_:∀ lo hi:Nat,h≤B.length+lo→hi≤A.length→hi≤h→lo≤hi→(lo=0∨h=B.length+lo)→(hi=A.length∨hi=h) →
          ∃ C,C.Perm (A++B)∧C.Pairwise (R key)∧iU K n (P++A++B++Q) ((P.length:Nat):Int) ((P.length+A.length:Nat):Int) ((P.length+A.length+B.length:Nat):Int) f ((P.length+h:Nat):Int) ((P.length+h+(P.length+A.length):Nat):Int) n ((P.length+lo:Nat):Int) ((P.length+hi:Nat):Int)=some (P++C++Q):=by
        intro lo hi k1 k2 k3 k4 k5 k6
        obtain ⟨s,s1,s2,s3,s4,s5⟩:=seek (n:=n) hC P A B Q h hM hl (v2:=((P.length:Nat):Int)) (v4:=((P.length+A.length+B.length:Nat):Int)) (v30:=((P.length+h:Nat):Int)) (by omega) lo hi k1 k2 k3 n lo hi (by omega) (Nat.le_refl _) k4 (Nat.le_refl _) (fun k _ _=>by omega) (fun k _ _=>by omega)
        rw [s5]
        have eA:A.take s++A.drop s=A:=List.take_append_drop s A
        have eB:B.take (h - s)++B.drop (h - s)=B:=List.take_append_drop (h - s) B
        have la:(A.take s).length=s:=by simp; omega
        have lb:(B.take (h - s)).length=h - s:=by simp; omega
        have la2:(A.drop s).length=A.length - s:=by simp
        have lb2:(B.drop (h - s)).length=B.length - (h - s):=by simp
        have eL:P++A++B++Q=P++A.take s++A.drop s++B.take (h - s)++B.drop (h - s)++Q:=by
          conv=>lhs; rw [←eA,← eB]
          simp only [List.append_assoc]
        have:=tail_ok (K:=K) (n:=n) (f:=f) (N:=N) hn P (A.take s) (A.drop s) (B.take (h - s)) (B.drop (h - s)) Q hg (by rw [eA,eB]; exact hM) (by simp only [List.length_append,la,lb,la2,lb2]; omega) (by omega) (by omega)
          (fun x hx y hy=>by
            obtain ⟨i,i1,i2,rfl⟩:=qw hx
            obtain ⟨k,q1,q2,rfl⟩:=px hy
            have m1:=s3 (s - 1) (by omega) (by omega)
            rw [show h - 1 - (s - 1)=h - s by omega] at m1
            have m2:R key (at_ A i) (at_ B (h - s)):=by
              rcases Nat.lt_or_ge i (s - 1) with q | q
              · exact (cC hM.l q (by omega)).trans m1
              · obtain rfl:i=s - 1:=by omega
                exact m1
            rcases Nat.lt_or_ge (h - s) k with q | q
            · exact m2.trans (cC hM.r q q2)
            · obtain rfl:k=h - s:=by omega
              exact m2)
          (fun x hx y hy=>by
            obtain ⟨k,q1,q2,rfl⟩:=qw hx
            obtain ⟨i,i1,i2,rfl⟩:=px hy
            have m1:=s4 s (Nat.le_refl _) (by omega)
            have m2:R key (at_ B k) (at_ A s):=by
              rcases Nat.lt_or_ge k (h - 1 - s) with q | q
              · exact (cC hM.r q (by omega)).trans m1
              · obtain rfl:k=h - 1 - s:=by omega
                exact m1
            rcases Nat.lt_or_ge s i with q | q
            · exact m2.trans (cC hM.l q i2)
            · obtain rfl:i=s:=by omega
              exact m2)
          (v2:=((P.length:Nat):Int)) (v3:=((P.length+A.length:Nat):Int)) (v4:=((P.length+A.length+B.length:Nat):Int)) (v30:=((P.length+h:Nat):Int)) (v31:=((P.length+h+(P.length+A.length):Nat):Int)) (v39:=((P.length+s:Nat):Int)) rfl (by omega) (by omega) (by omega) (by omega) (by omega)
        rw [eA,eB] at this
        rw [eL]
        exact this
      by_cases hc:h<A.length
      · rw [if_pos (by simp; omega)]
        simp only [lN]
        rw [wn (n:=((P.length+h+(P.length+A.length):Nat):Int) - ((P.length+A.length+B.length:Nat):Int)) (k:=P.length+(h - B.length)) (by omega) (by omega)]
        exact key_ (h - B.length) h (by omega) (by omega) (by omega) (by omega) (by omega) (by omega)
      · rw [if_neg (by simp; omega)]
        simp only [lN]
        exact key_ 0 A.length (by omega) (by omega) (by omega) (by omega) (by omega) (by omega)
end Go.Proofs.Ytolhpahjgddjkaa.QSort
namespace Go.Proofs.Ytolhpahjgddjkaa.QSort
set_option linter.all false
open Go.RowKit
variable {K:Kn} {n:Nat} {f:Fv} {D:Int→Prop} {key:Int→Int}
theorem merges {c0:Nat} (hC:∀ m,c0≤m→Cmp (KN m) f D key):∀ (N lvl n:Nat),10001<n→c0+N+10002≤lvl→Merges key D N (fun L a m b=>fg (KN lvl) n L a m b f):=by
  intro N
  induction N with
  | zero=>intro lvl n h1 h2 P A B Q hA hB hN; omega
  | succ N ih =>
    intro lvl n h1 h2
    obtain ⟨l,rfl⟩:∃ l,lvl=l+1:=⟨lvl - 1,by omega⟩
    exact merge_one (hC _ (by omega)) h1 (ih l l (by omega) (by omega))
inductive Bl (key:Int→Int) (bs:Nat):List Int→List Int→Prop
  | last (o d:List Int) (h:o.length≤bs) (p:d.Perm o) (s:d.Pairwise (R key)):Bl key bs o d
  | more (o1 d1 o2 d2:List Int) (h:o1.length=bs) (p:d1.Perm o1) (s:d1.Pairwise (R key)) (t:Bl key bs o2 d2):Bl key bs (o1++o2) (d1++d2)
theorem Bl.len {bs:Nat} {o d:List Int} (h:Bl key bs o d):d.length=o.length:=by
  induction h with
  | last o d h p s=>exact p.length_eq
  | more o1 d1 o2 d2 h p s t ih=>simp [p.length_eq,ih]
theorem blocks (hC:Cmp K f D key) (hn:10001<n):∀ (m:Nat) (P S:List Int),S.length<m→S.Pairwise (· < ·)→(∀ x∈S,D x)→P.length+S.length≤10000 →
    ∃ S',Bl key 20 S S'∧lj K n ((P.length+S.length:Nat):Int) f m ((P.length:Nat):Int) ((P.length+20:Nat):Int) (P++S)=ia K n ((P.length+S.length:Nat):Int) f n 20 (P++S'):=by
  intro m
  induction m with
  | zero=>intro P S h; omega
  | succ m ih =>
    intro P S hm hS hD hl
    simp only [lj,nQ]
    by_cases hc:20≤S.length
    · rw [iteT (by omega)]
      obtain ⟨S1,S2,rfl,h1⟩:∃ S1 S2,S=S1++S2∧S1.length=20:=⟨S.take 20,S.drop 20,by simp,by simp; omega⟩
      rw [List.pairwise_append] at hS
      simp only [List.length_append] at hm hl hc ⊢
      obtain ⟨S',p1,p2,p3⟩:=ins_ok (n:=n) hC P S1 S2 hn hS.1 (fun x hx=>hD x (by simp [hx])) (by omega)
      have l1:S'.length=20:=by rw [p1.length_eq,h1]
      rw [h1] at p3
      rw [show P++(S1++S2)=P++S1++S2 by simp,p3,sb,wn (k:=P.length+20+20) (by omega) (by omega)]
      obtain ⟨S'',q1,q2⟩:=ih (P++S') S2 (by omega) hS.2.1 (fun x hx=>hD x (by simp [hx])) (by simp; omega)
      simp only [List.length_append,l1] at q2
      refine ⟨S'++S'',.more _ _ _ _ h1 p1 p2 q1,?_⟩
      rw [h1,show P.length+(20+S2.length)=P.length+20+S2.length by omega,q2]
      simp
    · rw [iteF (by omega)]
      obtain ⟨S',p1,p2,p3⟩:=ins_ok (n:=n) hC P S [] hn hS hD (by omega)
      simp only [List.append_nil] at p3
      exact ⟨S',.last _ _ (by omega) p1 p2,by rw [p3,sb]⟩
theorem pass {N:Nat} (hn:10001<n) (hg:Merges key D N (fun L a m b=>fg K n L a m b f)) (bs:Nat) (hb:0<bs) (hb2:bs≤10000) (L2:Int→List Int→Option (List Int)):∀ (m:Nat) (P S d:List Int),S.length<m→Bl key bs S d→S.Pairwise (· < ·)→(∀ x∈S,D x)→P.length+S.length≤10000→S.length<N →
    ∃ d',Bl key (2*bs) S d'∧kv K n ((P.length+S.length:Nat):Int) f ((bs:Nat):Int) L2 m ((P.length:Nat):Int) ((P.length+2*bs:Nat):Int) (P++d)=L2 ((2*bs:Nat):Int) (P++d'):=by
  intro m
  induction m with
  | zero=>intro P S d h; omega
  | succ m ih =>
    intro P S d hm hB hS hD hl hN
    have ed:=hB.len
    simp only [kv,nt,nD]
    have e2:w64 (((bs:Nat):Int)*2)=((2*bs:Nat):Int):=wn (by omega) (by omega)
    have e3:w64 (2*((bs:Nat):Int))=((2*bs:Nat):Int):=wn (by omega) (by omega)
    rw [wn (n:=((P.length:Nat):Int)+((bs:Nat):Int)) (k:=P.length+bs) (by omega) (by omega),e2,e3]
    -- two blocks are merged
    have two:∀ o1 d1 o2 d2 r:List Int,o1.length=bs→d1.Perm o1→d1.Pairwise (R key)→d2.Perm o2→d2.Pairwise (R key)→0<o2.length→(∀ x∈o1,∀ y∈o2,x<y)→(∀ x∈o1++o2,D x)→P.length+(o1.length+o2.length)≤10000→o1.length+o2.length<N →
        ∃ C,C.Perm (o1++o2)∧C.Pairwise (R key)∧fg K n (P++(d1++d2)++r) ((P.length:Nat):Int) ((P.length+bs:Nat):Int) ((P.length+(bs+o2.length):Nat):Int) f=some (P++C++r):=by
      intro o1 d1 o2 d2 r k1 k2 k3 k4 k5 k6 k7 k8 k9 k10
      have n1:d1.length=bs:=by rw [k2.length_eq,k1]
      have n2:=k4.length_eq
      obtain ⟨C,q1,q2,q3⟩:=hg P d1 d2 r (by omega) (by omega) (by omega) (by simp; omega) ⟨k3,k5,fun x hx y hy=>k7 x (k2.mem_iff.1 hx) y (k4.mem_iff.1 hy),fun x hx=>k8 x ((k2.append k4).mem_iff.1 hx)⟩
      refine ⟨C,q1.trans (k2.append k4),q2,?_⟩
      rw [n1,n2,show P.length+bs+o2.length=P.length+(bs+o2.length) by omega,show P++d1++d2++r=P++(d1++d2)++r by simp] at q3
      exact q3
    cases hB with
    | last _ _ h p s =>
      refine ⟨d,.last _ _ (by omega) p s,?_⟩
      rw [iteF (by omega),iteF (by omega)]
    | more o1 d1 o2 d2 h p s t =>
      rw [List.pairwise_append] at hS
      simp only [List.length_append] at hm hl hN ⊢
      cases t with
      | last _ _ h' p' s' =>
        by_cases hc:o2.length=bs
        · rw [iteT (by omega)]
          obtain ⟨C,q1,q2,q3⟩:=two o1 d1 o2 d2 [] h p s p' s' (by omega) hS.2.2 hD (by omega) (by omega)
          simp only [List.append_nil] at q3
          rw [hc] at q3
          rw [show ((P.length+2*bs:Nat):Int)=((P.length+(bs+bs):Nat):Int) by omega,q3,sb,wn (n:=((P.length+(bs+bs):Nat):Int)+((2*bs:Nat):Int)) (k:=P.length+(bs+bs)+2*bs) (by omega) (by omega)]
          have lC:C.length=bs+bs:=by rw [q1.length_eq]; simp; omega
          obtain ⟨d',r1,r2⟩:=ih (P++C) [] [] (by simp; omega) (.last _ _ (by simp) (.refl _) (by simp)) (by simp) (by simp) (by simp; omega) (by simp; omega)
          simp only [List.length_append,lC,List.length_nil,Nat.add_zero,List.append_nil] at r2
          refine ⟨C++d',?_,?_⟩
          · have:=Bl.more (key:=key) (bs:=2*bs) (o1++o2) C [] d' (by simp; omega) q1 q2 r1
            simpa using this
          · rw [show P.length+(o1.length+o2.length)=P.length+(bs+bs) by omega,r2]
            simp
        · rw [iteF (by omega)]
          by_cases hz:o2.length=0
          · rw [iteF (by omega)]
            have:o2=[]:=List.eq_nil_of_length_eq_zero hz
            subst this
            have:d2=[]:=p'.eq_nil
            subst this
            exact ⟨d1++[],.last _ _ (by simp; omega) (by simpa using p) (by simpa using s),rfl⟩
          · rw [iteT (by omega)]
            obtain ⟨C,q1,q2,q3⟩:=two o1 d1 o2 d2 [] h p s p' s' (by omega) hS.2.2 hD (by omega) (by omega)
            simp only [List.append_nil] at q3
            rw [h,q3,sb]
            exact ⟨C,.last _ _ (by simp; omega) q1 q2,rfl⟩
      | more o21 d21 o22 d22 h' p' s' t' =>
        have hS2:=hS.2.1
        rw [List.pairwise_append] at hS2
        simp only [List.length_append] at hm hl hN ⊢
        rw [iteT (by omega)]
        obtain ⟨C,q1,q2,q3⟩:=two o1 d1 o21 d21 d22 h p s p' s' (by omega) (fun x hx y hy=>hS.2.2 x hx y (by simp [hy])) (fun x hx=>hD x (by rcases List.mem_append.1 hx with q | q<;>simp [q])) (by omega) (by omega)
        rw [h'] at q3
        have lC:C.length=bs+bs:=by rw [q1.length_eq]; simp; omega
        rw [show P++(d1++(d21++d22))=P++(d1++d21)++d22 by simp,show ((P.length+2*bs:Nat):Int)=((P.length+(bs+bs):Nat):Int) by omega,q3,sb,wn (n:=((P.length+(bs+bs):Nat):Int)+((2*bs:Nat):Int)) (k:=P.length+(bs+bs)+2*bs) (by omega) (by omega)]
        obtain ⟨d',r1,r2⟩:=ih (P++C) o22 d22 (by omega) t' hS2.2.1 (fun x hx=>hD x (by simp [hx])) (by simp; omega) (by omega)
        simp only [List.length_append,lC] at r2
        refine ⟨C++d',?_,?_⟩
        · have:=Bl.more (key:=key) (bs:=2*bs) (o1++o21) C o22 d' (by simp; omega) q1 q2 r1
          simpa using this
        · rw [show P.length+(o1.length+(o21.length+o22.length))=P.length+(bs+bs)+o22.length by omega,r2]
          simp
theorem rounds {N:Nat} (hn:10001<n) (hg:Merges key D N (fun L a m b=>fg K n L a m b f)) (S:List Int) (hS:S.Pairwise (· < ·)) (hD:∀ x∈S,D x) (hl:S.length≤10000) (hN:S.length<N):∀ (m bs:Nat) (d:List Int),0<bs→S.length - bs<m→Bl key bs S d →
    ∃ d',d'.Perm S∧d'.Pairwise (R key)∧ia K n ((S.length:Nat):Int) f m ((bs:Nat):Int) d=some d':=by
  intro m
  induction m with
  | zero=>intro bs d hb h; omega
  | succ m ih =>
    intro bs d hb hm hB
    simp only [ia,mY]
    by_cases hc:bs<S.length
    · rw [iteT (by omega),wn (n:=2*((bs:Nat):Int)) (k:=2*bs) (by omega) (by omega)]
      obtain ⟨d',r1,r2⟩:=pass (n:=n) hn hg bs hb (by omega) (ia K n ((S.length:Nat):Int) f m) n [] S d (by omega) hB hS hD (by simp; omega) hN
      simp only [List.length_nil,List.nil_append,Nat.zero_add] at r2
      rw [show ((0:Nat):Int)=0 from rfl] at r2
      rw [r2]
      exact ih (2*bs) d' (by omega) (by omega) r1
    · rw [iteF (by omega)]
      cases hB with
      | last _ _ h p s=>exact ⟨d,p,s,rfl⟩
      | more o1 d1 o2 d2 h p s t =>
        simp only [List.length_append] at hc
        have:o2=[]:=List.eq_nil_of_length_eq_zero (by omega)
        subst this
        have:d2=[]:=List.eq_nil_of_length_eq_zero (by rw [t.len]; rfl)
        subst this
        exact ⟨_,by simpa using p,by simpa using s,rfl⟩
theorem sort_ok {c0:Nat} (hC:∀ m,c0≤m→Cmp (KN m) f D key) {lvl n:Nat} (S:List Int) (hn:10001<n) (hlv:c0+(S.length+1)+10002≤lvl) (hS:S.Pairwise (· < ·)) (hD:∀ x∈S,D x) (hl:S.length≤10000) :
    ∃ d,d.Perm S∧d.Pairwise (R key)∧gh (KN lvl) n S f=some d:=by
  unfold gh pZ
  have hle:c0≤lvl:=by omega
  have h0:S.length<n:=by omega
  obtain ⟨S',b1,b2⟩:=blocks (K:=KN lvl) (n:=n) (hC lvl hle) hn n [] S h0 hS hD (by rw [List.length_nil,Nat.zero_add]; exact hl)
  simp only [List.length_nil,List.nil_append,Nat.zero_add] at b2
  rw [show ((0:Nat):Int)=0 from rfl,show ((20:Nat):Int)=20 from rfl] at b2
  have h1:=hlv
  have h2:S.length - 20<n:=by omega
  have hm:=merges hC (S.length+1) lvl n hn h1
  generalize KN lvl=K at *
  obtain ⟨d,d1,d2,d3⟩:=rounds (K:=K) (n:=n) (N:=S.length+1) hn hm S hS hD hl (Nat.lt_succ_self _) n 20 S' (by decide) h2 b1
  rw [show ((20:Nat):Int)=20 from rfl] at d3
  exact ⟨d,d1,d2,by rw [b2,d3,sb]⟩
end Go.Proofs.Ytolhpahjgddjkaa.QSort
namespace Go.Proofs.Ytolhpahjgddjkaa
set_option linter.all false
open Go.RowKit
namespace Sh
def idx (n:Nat):List Int:=(List.range n).map fun (k:Nat)=>(k:Int)
instance (key:Int→Int) (a b:Int):Decidable (QSort.R key a b):=by unfold QSort.R; infer_instance
theorem fh (n:Nat):(idx n).length=n:=by simp [idx]
theorem gq {n:Nat} {x:Int}:x∈idx n ↔ ∃ k:Nat,k<n∧x=k:=by
  simp only [idx,List.mem_map,List.mem_range]
  exact ⟨fun ⟨k,h,e⟩=>⟨k,h,e.symm⟩,fun ⟨k,h,e⟩=>⟨k,h,e.symm⟩⟩
theorem jw (n:Nat):(idx n).Pairwise (· < ·):=by
  unfold idx
  rw [List.pairwise_map]
  refine List.Pairwise.imp (fun h=>?_) List.pairwise_lt_range
  omega
theorem iP (n:Nat):idx (n+1)=idx n++[(n:Int)]:=by simp [idx,List.range_succ]
def lim (n most:Int):Int:=min (max n 0) most
def mx:Int:=2147483647
theorem lim_bd {n m:Int} (h:0≤m):0≤lim n m∧lim n m≤m:=by unfold lim; omega
def q (T S w:Int):Int:=T*w / S
def r (T S w:Int):Int:=T*w % S
def left (T:Int) (W:List Int):Int:=T - sm (W.map (q T (sm W)))
def win (T:Int) (W:List Int) (k:Nat):Prop :=
  0<r T (sm W) (W.getD k default)∧(((W.take k).countP (fun w=>decide (r T (sm W) (W.getD k default)≤r T (sm W) w))+(W.drop (k+1)).countP (fun w=>decide (r T (sm W) (W.getD k default)<r T (sm W) w)):Nat):Int)<left T W
instance (T:Int) (W:List Int) (k:Nat):Decidable (win T W k):=by unfold win; infer_instance
def part (T:Int) (W:List Int) (k:Nat):Int:=q T (sm W) (W.getD k default)+if win T W k then 1 else 0
def share (T:Int) (W:List Int):List Int:=if sm W=0 then List.replicate W.length 0 else (List.range W.length).map (part T W)
theorem eb (T:Int) (W:List Int):(share T W).length=W.length:=by unfold share; split<;>simp
def inc:List Int→List Int→List Int
  | p,[]=>p
  | p,i::l=>inc (p.set i.toNat (p.getD i.toNat default+1)) l
theorem inc_len:∀ (l p:List Int),(inc p l).length=p.length
  | [],p=>rfl
  | i::l,p=>by simp [inc,inc_len l]
theorem sm_set:∀ (p:List Int) (k:Nat) (x:Int),k<p.length→sm (p.set k x)=sm p - p.getD k default+x
  | [],k,x,h=>by simp at h
  | y::p,0,x,h=>by simp [sm]; omega
  | y::p,k+1,x,h=>by
    have:=sm_set p k x (by simpa using h)
    simp only [List.set_cons_succ,sm,this,List.getD_cons_succ]; omega
theorem inc_sum:∀ (l p:List Int),(∀ i∈l,0≤i∧i.toNat<p.length)→sm (inc p l)=sm p+l.length
  | [],p,h=>by simp [inc]
  | i::l,p,h=>by
    simp only [inc]
    rw [inc_sum l _ (fun j hj=>by have:=h j (by simp [hj]); simpa using this),sm_set _ _ _ (h i (by simp)).2]
    simp only [List.length_cons]; omega
theorem uq {p:List Int} {i j:Nat} {x:Int} (h:i≠j):(p.set i x).getD j default=p.getD j default:=by simp [List.getD_eq_getElem?_getD,List.getElem?_set,h]
theorem sR {p:List Int} {i:Nat} {x:Int} (h:i<p.length):(p.set i x).getD i default=x:=by simp [List.getD_eq_getElem?_getD,List.getElem?_set,h]
theorem inc_at:∀ (l p:List Int) (k:Nat),l.Nodup→(∀ i∈l,0≤i)→k<p.length→(inc p l).getD k default=p.getD k default+if (k:Int)∈l then 1 else 0
  | [],p,k,_,_,_=>by simp [inc]
  | i::l,p,k,hn,h0,hk=>by
    simp only [inc]
    rw [List.nodup_cons] at hn
    rw [inc_at l _ k hn.2 (fun j hj=>h0 j (by simp [hj])) (by simpa using hk)]
    have hi:=h0 i (by simp)
    by_cases e:i.toNat=k
    · have e2:i=(k:Int):=by omega
      subst e2
      rw [Int.toNat_natCast,sR hk,if_neg hn.1,if_pos (by simp)]; omega
    · rw [uq e]
      have:((k:Int)∈i::l)↔(k:Int)∈l:=by
        rw [List.mem_cons]; constructor
        · rintro (h | h)
          · omega
          · exact h
        · exact .inr
      simp only [this]
theorem sm_perm {a b:List Int} (h:a.Perm b):sm a=sm b:=by
  induction h with
  | nil=>rfl
  | cons x _ ih=>simp [sm,ih]
  | swap x y l=>simp only [sm]; omega
  | trans _ _ h1 h2=>rw [h1,h2]
theorem sm_qr (T S:Int) (hS:0<S):∀ W:List Int,S*sm (W.map (q T S))+sm (W.map (r T S))=T*sm W
  | []=>by simp [sm]
  | w::W=>by
    have:=sm_qr T S hS W
    have h:=Int.mul_ediv_add_emod (T*w) S
    simp only [List.map_cons,sm,Int.mul_add]
    unfold q r at *
    omega
theorem d6 {c:Int}:∀ L:List Int,(∀ x∈L,x≤c)→sm L≤L.length*c
  | [],_=>by simp [sm]
  | x::L,h=>by
    have:=d6 L (fun y hy=>h y (by simp [hy])); have:=h x (by simp)
    simp only [sm,List.length_cons]
    rw [show ((L.length+1:Nat):Int)*c=L.length*c+c by simp [Int.add_mul]]; omega
theorem cK:∀ L:List Int,(∀ x∈L,0≤x)→0≤sm L
  | [],_=>by simp [sm]
  | x::L,h=>by
    have:=cK L (fun y hy=>h y (by simp [hy])); have:=h x (by simp)
    simp only [sm]; omega
theorem jF:∀ (L:List Int),(∀ x∈L,0≤x)→∀ x∈L,x≤sm L
  | [],_,_,hx=>by simp at hx
  | y::L,h,x,hx=>by
    have h1:=cK L (fun y hy=>h y (by simp [hy])); have h2:=h y (by simp)
    simp only [sm]
    rcases List.mem_cons.1 hx with rfl | hx
    · omega
    · have:=jF L (fun y hy=>h y (by simp [hy])) x hx; omega
theorem r_bd {T S w:Int} (hS:0<S):0≤r T S w∧r T S w<S:=⟨Int.emod_nonneg _ (by omega),Int.emod_lt_of_pos _ hS⟩
theorem q_bd {T S w:Int} (hS:0<S) (hT:0≤T) (hw:0≤w) (hw2:w≤S):0≤q T S w∧q T S w≤T:=by
  refine ⟨Int.ediv_nonneg (Int.mul_nonneg hT hw) (by omega),?_⟩
  unfold q
  have h:T*w≤T*S:=Int.mul_le_mul_of_nonneg_left hw2 hT
  calc T*w / S≤T*S / S:=Int.ediv_le_ediv hS h
    _=T:=Int.mul_ediv_cancel _ (by omega)
theorem left_mul (T:Int) (W:List Int) (hS:0<sm W):sm W*left T W=sm (W.map (r T (sm W))):=by
  have:=sm_qr T (sm W) hS W
  unfold left
  rw [Int.mul_sub,Int.mul_comm (sm W) T]; omega
theorem pN (T:Int) (W:List Int) (hS:0<sm W):0≤left T W∧left T W≤W.length:=by
  have h:=left_mul T W hS
  have h0:0≤sm (W.map (r T (sm W))):=cK _ (fun x hx=>by
    obtain ⟨w,_,rfl⟩:=List.mem_map.1 hx; exact (r_bd hS).1)
  have h1:sm (W.map (r T (sm W)))≤(W.map (r T (sm W))).length*sm W:=d6 _ (fun x hx=>by
    obtain ⟨w,_,rfl⟩:=List.mem_map.1 hx; have:=(r_bd (T:=T) (w:=w) hS).2; omega)
  rw [List.length_map,← h,Int.mul_comm] at h1
  refine ⟨?_,Int.le_of_mul_le_mul_right h1 hS⟩
  rw [←h] at h0
  rcases Int.lt_or_le (left T W) 0 with h | h
  · have:=Int.mul_neg_of_pos_of_neg hS h; omega
  · exact h
def key (rs:List Int) (a:Int):Int := - rs.getD a.toNat default
structure Ord (rs d:List Int):Prop where
  p:d.Perm (idx rs.length)
  s:d.Pairwise (QSort.R (key rs))
theorem Ord.nodup {rs d:List Int} (h:Ord rs d):d.Nodup:=by
  refine List.Pairwise.imp (fun hh e=>?_) h.s
  subst e; exact hh.irr
theorem Ord.mem {rs d:List Int} (h:Ord rs d) {x:Int}:x∈d ↔ ∃ k:Nat,k<rs.length∧x=k:=by rw [h.p.mem_iff,gq]
theorem Ord.len {rs d:List Int} (h:Ord rs d):d.length=rs.length:=by rw [h.p.length_eq,fh]
theorem pW (rs:List Int) (p:Int→Bool):∀ n,n≤rs.length→(idx n).countP (fun a=>p (rs.getD a.toNat default))=(rs.take n).countP p
  | 0,_=>by simp [idx]
  | n+1,h=>by
    rw [iP,List.countP_append,pW rs p n (by omega),List.take_succ_eq_append_getElem (by omega),List.countP_append]
    simp [List.getD_eq_getElem?_getD,List.getElem?_eq_getElem (show n<rs.length by omega)]
theorem rank {rs d:List Int} (h:Ord rs d) {t k:Nat} (ht:t<d.length) (hk:d.getD t default=(k:Int)):(rs.take k).countP (fun w=>decide (rs.getD k default≤w))+(rs.drop (k+1)).countP (fun w=>decide (rs.getD k default<w))=t:=by
  have ek:k<rs.length:=by
    have:d.getD t default∈d:=by rw [bO ht]; exact List.getElem_mem _
    rw [hk] at this
    obtain ⟨j,h1,h2⟩:=h.mem.1 this
    omega
  -- in the sorted order there are t ahead of k
  have c1:d.countP (fun a=>decide (QSort.R (key rs) a k))=t:=by
    have e:d=d.take t++d.drop t:=(List.take_append_drop t d).symm
    have e2:d.drop t=(k:Int)::d.drop (t+1):=by rw [List.drop_eq_getElem_cons ht,← bO ht,hk]
    rw [e2] at e
    have hs:=h.s
    rw [e,List.pairwise_append,List.pairwise_cons] at hs
    rw [e,List.countP_append,List.countP_cons]
    have z1:(d.take t).countP (fun a=>decide (QSort.R (key rs) a k))=t:=by
      rw [List.countP_eq_length.2 (fun a ha=>by simpa using hs.2.2 a ha k (by simp))]; simp; omega
    have z2:(d.drop (t+1)).countP (fun a=>decide (QSort.R (key rs) a k))=0:=by
      rw [List.countP_eq_zero]; intro a ha hh
      exact (hs.2.1.1 a ha).asymm (by simpa using hh)
    have z3:(if decide (QSort.R (key rs) (k:Int) k)=true then 1 else 0)=0:=by
      rw [if_neg]; intro hh; exact (by simpa using hh:QSort.R (key rs) (k:Int) k).irr
    rw [z1,z2,z3]
    omega
  rw [h.p.countP_eq] at c1
  -- the indices below k,k,those above
  have e:idx rs.length=idx k++(k:Int)::(idx rs.length).drop (k+1):=by
    have h1:(idx rs.length).take k=idx k:=by unfold idx; rw [←List.map_take,List.take_range,Nat.min_eq_left (Nat.le_of_lt ek)]
    have h2:k<(idx rs.length).length:=by rw [fh]; exact ek
    conv=>lhs; rw [←List.take_append_drop k (idx rs.length),h1,List.drop_eq_getElem_cons h2]
    congr 2
    simp [idx]
  have a1:(idx k).countP (fun a=>decide (QSort.R (key rs) a k))=(rs.take k).countP (fun w=>decide (rs.getD k default≤w)):=by
    rw [←pW rs (fun w=>decide (rs.getD k default≤w)) k (by omega)]
    refine List.countP_congr (fun a ha=>?_)
    obtain ⟨j,hj,rfl⟩:=gq.1 ha
    simp only [decide_eq_true_eq]
    simp only [QSort.R,key,Int.toNat_natCast]
    omega
  have a2:((idx rs.length).drop (k+1)).countP (fun a=>decide (QSort.R (key rs) a k))=(rs.drop (k+1)).countP (fun w=>decide (rs.getD k default<w)):=by
    have b1:=pW rs (fun w=>decide (rs.getD k default<w)) rs.length (Nat.le_refl _)
    have b2:=pW rs (fun w=>decide (rs.getD k default<w)) (k+1) (by omega)
    rw [List.take_length] at b1
    have b3:rs.countP (fun w=>decide (rs.getD k default<w))=(rs.take (k+1)).countP (fun w=>decide (rs.getD k default<w))+(rs.drop (k+1)).countP (fun w=>decide (rs.getD k default<w)):=by
      rw [←List.countP_append,List.take_append_drop]
    have b4:idx rs.length=idx (k+1)++(idx rs.length).drop (k+1):=by
      rw [iP]; conv=>lhs; rw [e]
      simp
    rw [b4,List.countP_append,b2] at b1
    have b5:((idx rs.length).drop (k+1)).countP (fun a=>decide (QSort.R (key rs) a k))=((idx rs.length).drop (k+1)).countP (fun a=>(fun w=>decide (rs.getD k default<w)) (rs.getD a.toNat default)):=by
      refine List.countP_congr (fun a ha=>?_)
      have:(k:Int)<a:=by
        have hp:=jw rs.length
        rw [e,List.pairwise_append,List.pairwise_cons] at hp
        exact hp.2.1.1 a ha
      have h0:0≤a:=by omega
      obtain ⟨j,rfl⟩:∃ j:Nat,a=j:=⟨a.toNat,by omega⟩
      simp only [decide_eq_true_eq]
      simp only [QSort.R,key,Int.toNat_natCast]
      omega
    rw [b5]; dsimp only at b1 b2 b3 ⊢; omega
  have a3:(if decide (QSort.R (key rs) (k:Int) k)=true then 1 else 0)=0:=by
    rw [if_neg]; intro hh; exact (by simpa using hh:QSort.R (key rs) (k:Int) k).irr
  rw [e,List.countP_append,List.countP_cons,a1,a2,a3] at c1
  omega
theorem qr (T S:Int) (W:List Int) {k:Nat} (h:k<W.length):(W.map (r T S)).getD k default=r T S (W.getD k default):=by simp [List.getD_eq_getElem?_getD,h]
theorem share_inc (T:Int) (W d:List Int) (hW:∀ w∈W,0≤w) (hS:sm W≠0) (h:Ord (W.map (r T (sm W))) d):share T W=inc (W.map (q T (sm W))) (d.take (left T W).toNat):=by
  have hS0:0<sm W:=by have:=cK W hW; omega
  have hlb:=pN T W hS0
  have hlm:=left_mul T W hS0
  have hdl:d.length=W.length:=by rw [h.len,List.length_map]
  unfold share
  rw [if_neg hS]
  refine List.ext_getElem (by rw [inc_len]; simp) (fun k h1 h2=>?_)
  have hk:k<W.length:=by simpa using h1
  rw [←bO h2,inc_at _ _ _ (h.nodup.sublist (List.take_sublist _ _)) (fun i hi=>by
    obtain ⟨j,_,rfl⟩:=h.mem.1 (List.mem_of_mem_take hi); omega) (by simpa using hk)]
  simp only [List.getElem_map,List.getElem_range,part]
  have e1:(W.map (q T (sm W))).getD k default=q T (sm W) (W.getD k default):=by simp [List.getD_eq_getElem?_getD,hk]
  rw [e1]
  congr 1
  -- where is k in the order?
  obtain ⟨t,ht,et⟩:=QSort.mem_at (A:=d) (x:=(k:Int)) (h.mem.2 ⟨k,by simpa using hk,rfl⟩)
  have hr:=rank h ht et
  rw [qr _ _ _ hk,← List.map_take,← List.map_drop,List.countP_map,List.countP_map] at hr
  have hmem:((k:Int)∈d.take (left T W).toNat)↔t<(left T W).toNat:=by
    constructor
    · intro hm
      obtain ⟨t',k1,k2,k3⟩:=QSort.qw hm
      have:t'=t:=by
        rcases Nat.lt_trichotomy t t' with hh | hh | hh
        · have:=QSort.cC h.s hh k2; rw [et,k3] at this; exact absurd this (fun x=>x.irr)
        · exact hh.symm
        · have:=QSort.cC h.s hh ht; rw [et,k3] at this; exact absurd this (fun x=>x.irr)
      omega
    · intro hm
      have:d.take (left T W).toNat=d.take (left T W).toNat:=rfl
      have h3:t<(d.take (left T W).toNat).length:=by simp; omega
      have:=QSort.nj h3
      rwa [QSort.at_take hm,et] at this
  have hwin:win T W k↔t<(left T W).toNat:=by
    unfold win
    simp only [Function.comp_def] at hr
    rw [hr]
    constructor
    · intro hh; omega
    · intro hh
      refine ⟨?_,by omega⟩
      -- a rest of 0 does not win: all behind it are 0,too
      rcases Int.lt_or_le 0 (r T (sm W) (W.getD k default)) with hp | hp
      · exact hp
      · exfalso
        have eperm:sm (d.map fun a=>(W.map (r T (sm W))).getD a.toNat default)=sm (W.map (r T (sm W))):=by
          rw [sm_perm (h.p.map _)]
          congr 1
          refine List.ext_getElem (by simp [idx]) (fun i i1 i2=>?_)
          simp only [List.getElem_map,idx,List.getElem_range,Int.toNat_natCast,qr T (sm W) W (show i<W.length by simpa using i2)]
          rw [bO (show i<W.length by simpa using i2)]
        have esp:d=d.take t++d.drop t:=(List.take_append_drop t d).symm
        have smsp:sm (d.map fun a=>(W.map (r T (sm W))).getD a.toNat default)=sm ((d.take t).map fun a=>(W.map (r T (sm W))).getD a.toNat default)+sm ((d.drop t).map fun a=>(W.map (r T (sm W))).getD a.toNat default):=by
          conv=>lhs; rw [esp]
          rw [List.map_append,ff]
        have val:∀ a∈d,0≤(W.map (r T (sm W))).getD a.toNat default∧(W.map (r T (sm W))).getD a.toNat default≤sm W - 1:=by
          intro a ha
          obtain ⟨j,hj,rfl⟩:=h.mem.1 ha
          rw [List.length_map] at hj
          rw [Int.toNat_natCast,qr T (sm W) W hj]
          have:=r_bd (T:=T) (w:=W.getD j default) hS0; omega
        have s1:sm ((d.take t).map fun a=>(W.map (r T (sm W))).getD a.toNat default)≤t*(sm W - 1):=by
          have:=d6 (c:=sm W - 1) ((d.take t).map fun a=>(W.map (r T (sm W))).getD a.toNat default) (fun x hx=>by
            obtain ⟨a,ha,rfl⟩:=List.mem_map.1 hx; exact (val a (List.mem_of_mem_take ha)).2)
          rw [List.length_map,List.length_take,Nat.min_eq_left (by omega)] at this
          exact this
        have s2:sm ((d.drop t).map fun a=>(W.map (r T (sm W))).getD a.toNat default)≤(((d.drop t).map fun a=>(W.map (r T (sm W))).getD a.toNat default).length:Int)*0:=by
          refine d6 _ (fun x hx=>?_)
          obtain ⟨a,ha,rfl⟩:=List.mem_map.1 hx
          obtain ⟨i,i1,i2,rfl⟩:=QSort.px ha
          have ek:(W.map (r T (sm W))).getD k default≤0:=by rw [qr T (sm W) W hk]; exact hp
          rcases Nat.lt_or_ge t i with q | q
          · have:=QSort.cC h.s q i2
            rw [et] at this
            unfold QSort.R key at this
            rw [Int.toNat_natCast] at this
            omega
          · obtain rfl:i=t:=by omega
            rw [et,Int.toNat_natCast]; exact ek
        rw [Int.mul_zero] at s2
        have:sm W*left T W≤t*(sm W - 1):=by rw [hlm,← eperm,smsp]; omega
        have h4:sm W*((t:Int)+1)≤sm W*left T W:=Int.mul_le_mul_of_nonneg_left (by omega) (by omega)
        rw [Int.mul_add,Int.mul_one,Int.mul_comm (sm W) t] at h4
        rw [Int.mul_sub,Int.mul_one] at this
        omega
  by_cases hw:win T W k
  · rw [if_pos hw,if_pos (hmem.2 (hwin.1 hw))]
  · rw [if_neg hw,if_neg (fun hh=>hw (hwin.2 (hmem.1 hh)))]
end Sh
end Go.Proofs.Ytolhpahjgddjkaa
namespace Go.Proofs.Ytolhpahjgddjkaa
set_option linter.all false
open Go.RowKit
namespace Sh
open QSort (wn aE iteT iteF sb)
variable {K:Kn} {n:Nat}
def wts (L:List Int):List Int:=L.map fun w=>lim w mx
theorem c7 (L:List Int):(wts L).length=L.length:=by simp [wts]
theorem fm (L:List Int):∀ w∈wts L,0≤w∧w≤2147483647:=by
  intro w hw
  obtain ⟨x,_,rfl⟩:=List.mem_map.1 hw
  exact lim_bd (m:=mx) (by decide)
theorem nY {L:List Int} {k:Nat} (h:k<L.length):(wts L).getD k default=lim (L.getD k default) mx:=by simp [wts,List.getD_eq_getElem?_getD,h]
theorem sm_wts {L:List Int} (h:L.length≤10000):0≤sm (wts L)∧sm (wts L)≤21474836470000:=by
  refine ⟨cK _ (fun w hw=>(fm L w hw).1),?_⟩
  have:=d6 (c:=2147483647) (wts L) (fun w hw=>(fm L w hw).2)
  rw [c7] at this; omega
theorem sm_take {W:List Int} (h:∀ w∈W,0≤w) (i:Nat):0≤sm (W.take i)∧sm (W.take i)≤sm W:=by
  have h1:=cK (W.take i) (fun w hw=>h w (List.mem_of_mem_take hw))
  have h2:=cK (W.drop i) (fun w hw=>h w (List.mem_of_mem_drop hw))
  have:sm W=sm (W.take i)+sm (W.drop i):=by rw [←ff,List.take_append_drop]
  omega
theorem gV {W:List Int} {i:Nat} (h:i<W.length):sm (W.take (i+1))=sm (W.take i)+W.getD i default:=by
  rw [List.take_succ_eq_append_getElem h,ff,bO h]; simp [sm]
theorem set_rep {A:List Int} {k i:Nat} {y z:Int} (h:i=A.length):List.set (A++List.replicate (k+1) z) i y=(A++[y])++List.replicate k z:=by
  subst h; simp [List.replicate_succ]
theorem get_rep {A:List Int} {k i:Nat} {y z:Int} (h:i=A.length):List.getD ((A++[y])++List.replicate k z) i default=y:=by
  subst h; simp [List.getD_eq_getElem?_getD]
theorem mul_bd {a b:Int} (h0:0≤a) (h1:a≤2147483647) (h2:0≤b) (h3:b≤2147483647):0≤a*b∧a*b≤4611686014132420609:=by
  refine ⟨Int.mul_nonneg h0 h2,?_⟩
  have:=Int.mul_le_mul h1 h3 h2 (by omega:(0:Int)≤2147483647)
  omega
theorem rg (g:Int→Int) {W:List Int} {i:Nat} (h:i<W.length):(W.take (i+1)).map g=(W.take i).map g++[g (W.getD i default)]:=by
  rw [List.take_succ_eq_append_getElem h,List.map_append,bO h]; rfl
theorem left_part {T:Int} {W:List Int} (hT:0≤T) (hW:∀ w∈W,0≤w) (hS:0<sm W) (i:Nat):0≤sm ((W.take i).map (q T (sm W)))∧sm ((W.take i).map (q T (sm W)))≤T:=by
  have hq:∀ x∈W.map (q T (sm W)),0≤x:=fun x hx=>by
    obtain ⟨w,hw,rfl⟩:=List.mem_map.1 hx
    exact (q_bd hS hT (hW w hw) (jF W hW w hw)).1
  have:=sm_take hq i
  rw [←List.map_take] at this
  have h2:=(pN T W hS).1
  unfold left at h2
  omega
theorem f_sum (L:List Int) (T:Int) (z1 z2 z3:List Int) (hL:L.length≤10000):∀ (m i:Nat),i≤L.length→L.length<m+i →
    kF K n L T z1 z2 z3 m (sm ((wts L).take i)) (i:Int)=if (sm (wts L) == 0)=true then some z1 else jc K n L T (sm (wts L)) n T 0 z1 z2 z3:=by
  intro m
  induction m with
  | zero=>intro i h1 h2; omega
  | succ m ih =>
    intro i h1 h2
    simp only [kF,oE]
    by_cases hi:i<L.length
    · have hb:=sm_wts hL
      have hs:=sm_take (W:=wts L) (fun w hw=>(fm L w hw).1) (i+1)
      have e:=gV (W:=wts L) (i:=i) (by rw [c7]; exact hi)
      have el:=nY hi
      rw [iteT (by omega),aE (by omega),tnat]
      simp only [iM,sb]
      rw [wn (n:=(i:Int)+1) (k:=i+1) (by omega) (by omega)]
      rw [show w64 (sm ((wts L).take i)+min (max (L.getD i default) 0) 2147483647)=sm ((wts L).take (i+1)) by
        rw [e,el]; exact b9 (by rw [e,el] at hs; unfold lim mx at hs; omega) (by rw [e,el] at hs; unfold lim mx at hs; omega)]
      exact ih (i+1) (by omega) (by omega)
    · rw [iteF (by omega),List.take_of_length_le (by rw [c7]; omega)]
theorem f_parts (L:List Int) (T:Int) (hT:0≤T∧T≤2147483647) (hL:L.length≤10000) (hS:0<sm (wts L)):∀ (m i:Nat),i≤L.length→L.length<m+i →
    jc K n L T (sm (wts L)) m (T - sm (((wts L).take i).map (q T (sm (wts L))))) (i:Int) (((wts L).take i).map (q T (sm (wts L)))++List.replicate (L.length - i) 0) (((wts L).take i).map (r T (sm (wts L)))++List.replicate (L.length - i) 0) (idx i++List.replicate (L.length - i) 0) =
    (gh K n (idx L.length) (Fv.c59 ((wts L).map (r T (sm (wts L)))))).bind fun v22 =>
    chk (slb (0:Int) (left T (wts L)) v22.length) (
    iX K n n (List.drop ((0:Int)).toNat (List.take (left T (wts L)).toNat v22)) ((List.drop ((0:Int)).toNat (List.take (left T (wts L)).toNat v22)).length:Int) 0 ((wts L).map (q T (sm (wts L))))):=by
  intro m
  induction m with
  | zero=>intro i h1 h2; omega
  | succ m ih =>
    intro i h1 h2
    simp only [jc,pK]
    by_cases hi:i<L.length
    · have hW:=fun w hw=>(fm L w hw).1
      have hlp:=left_part hT.1 hW hS
      have el:=nY hi
      obtain ⟨k,ek⟩:∃ k,L.length - i=k+1:=⟨L.length - i - 1,by omega⟩
      have hw:=fm L ((wts L).getD i default) (by rw [bO (by rw [c7]; exact hi)]; exact List.getElem_mem _)
      have hm:=mul_bd hT.1 hT.2 hw.1 hw.2
      rw [iteT (by omega),aE (by omega),tnat]
      simp only [iM,sb]
      have ew:min (max (L.getD i default) 0) 2147483647=(wts L).getD i default:=by rw [el]; rfl
      rw [ew,b9 (n:=T*(wts L).getD i default) (by omega) (by omega)]
      have hz:(sm (wts L) != 0)=true:=by simp; omega
      rw [hz,bx,bx]
      have la:(((wts L).take i).map (q T (sm (wts L)))++List.replicate (L.length - i) 0).length=L.length:=by simp [c7]; omega
      have lb:(((wts L).take i).map (r T (sm (wts L)))++List.replicate (L.length - i) 0).length=L.length:=by simp [c7]; omega
      have lc:(idx i++List.replicate (L.length - i) 0).length=L.length:=by simp [fh]; omega
      rw [la,lb,lc,aE (by omega),aE (by omega),aE (by omega)]
      simp only [List.length_set]
      rw [la,aE (by omega),ek]
      have l1:i=(((wts L).take i).map (q T (sm (wts L)))).length:=by simp [c7]; omega
      have l2:i=(((wts L).take i).map (r T (sm (wts L)))).length:=by simp [c7]; omega
      rw [set_rep l1,set_rep l2,set_rep (fh i).symm,get_rep l1]
      have hq:=q_bd hS hT.1 hw.1 (jF _ hW _ (by rw [bO (by rw [c7]; exact hi)]; exact List.getElem_mem _))
      have ed:w64 (Int.tdiv (T*(wts L).getD i default) (sm (wts L)))=q T (sm (wts L)) ((wts L).getD i default):=by
        rw [Int.tdiv_eq_ediv_of_nonneg hm.1]
        exact b9 (by show _≤q _ _ _; omega) (by show q _ _ _≤_; omega)
      have er:Int.tmod (T*(wts L).getD i default) (sm (wts L))=r T (sm (wts L)) ((wts L).getD i default):=by
        rw [Int.tmod_eq_emod_of_nonneg hm.1]; rfl
      rw [ed,er,← rg _ (by rw [c7]; exact hi),← rg _ (by rw [c7]; exact hi),← iP]
      have e1:w64 (T - sm (((wts L).take i).map (q T (sm (wts L)))) - q T (sm (wts L)) ((wts L).getD i default))=T - sm (((wts L).take (i+1)).map (q T (sm (wts L)))):=by
        rw [rg _ (by rw [c7]; exact hi),ff]
        simp only [sm]
        have a1:=hlp i
        rw [b9 (by omega) (by omega)]; omega
      rw [e1,wn (n:=(i:Int)+1) (k:=i+1) (by omega) (by omega)]
      have:=ih (i+1) (by omega) (by omega)
      rw [show L.length - (i+1)=k by omega] at this
      exact this
    · have:i=L.length:=by omega
      subst this
      rw [iteF (by omega)]
      have ew:(wts L).take L.length=wts L:=List.take_of_length_le (by rw [c7]; omega)
      rw [ew]
      simp only [Nat.sub_self,List.replicate_zero,List.append_nil]
      rfl
theorem f_inc (l:List Int) (hl:l.length≤10000):∀ (m i:Nat) (p:List Int),i≤l.length→l.length<m+i→(∀ x∈l,0≤x∧x.toNat<p.length)→(∀ x∈p,0≤x∧x+l.length≤4611686018427387904+i) →
    iX K n m l (l.length:Int) (i:Int) p=some (inc p (l.drop i)):=by
  intro m
  induction m with
  | zero=>intro i p h1 h2; omega
  | succ m ih =>
    intro i p h1 h2 hx hp
    simp only [iX,oi]
    by_cases hi:i<l.length
    · have hm:=hx (l.getD i default) (by rw [bO hi]; exact List.getElem_mem _)
      have hpx:=hp (p.getD (l.getD i default).toNat default) (by rw [bO hm.2]; exact List.getElem_mem _)
      rw [iteT (by omega),aE (by omega),tnat,aE (by omega),aE (by omega),wn (n:=(i:Int)+1) (k:=i+1) (by omega) (by omega),b9 (by omega) (by omega)]
      rw [ih (i+1) _ (by omega) (by omega) (by simpa using hx) (fun x hx2=>by
        rcases List.mem_or_eq_of_mem_set hx2 with h | h
        · have:=hp x h; omega
        · subst h; omega)]
      rw [List.drop_eq_getElem_cons hi,← bO hi]
      rfl
    · rw [iteF (by omega),List.drop_eq_nil_of_le (by omega)]
      rfl
theorem cmp_ok (rs:List Int) (m:Nat):QSort.Cmp (KN (m+1)) (Fv.c59 rs) (fun a=>0≤a∧a<rs.length) (key rs):=by
  refine ⟨fun a b ha hb=>?_⟩
  show ∃ c,mU (KN m) m a b rs=some c∧_
  unfold mU
  rw [aE hb,aE ha]
  simp only [j2,kR,sb,bne_self_eq_false,Bool.false_eq_true,if_false,key]
  by_cases h1:rs.getD b.toNat default<rs.getD a.toNat default
  · rw [iteT h1]; exact ⟨-1,rfl,by omega⟩
  · rw [iteF h1]
    by_cases h2:rs.getD b.toNat default>rs.getD a.toNat default
    · rw [iteT h2]; exact ⟨1,rfl,by omega⟩
    · rw [iteF h2]; exact ⟨0,rfl,by omega⟩
theorem sorted (rs:List Int) {lvl n:Nat} (hn:10001<n) (hl:rs.length≤10000) (hlv:20010≤lvl):∃ d,Ord rs d∧gh (KN lvl) n (idx rs.length) (Fv.c59 rs)=some d:=by
  obtain ⟨d,h1,h2,h3⟩:=QSort.sort_ok (c0:=1) (f:=Fv.c59 rs) (D:=fun a=>0≤a∧a<rs.length) (key:=key rs) (fun m hm=>by
    obtain ⟨k,rfl⟩:∃ k,m=k+1:=⟨m - 1,by omega⟩
    exact cmp_ok rs k) (lvl:=lvl) (n:=n) (idx rs.length) hn (by rw [fh]; omega) (jw _) (fun x hx=>by
      obtain ⟨k,hk,rfl⟩:=gq.1 hx; omega) (by rw [fh]; exact hl)
  exact ⟨d,⟨h1,h2⟩,h3⟩
theorem gT {a b:Int} {n:Nat} (h0:0≤a) (h1:a≤b) (h2:b≤n):slb a b n=true:=by simp [slb,h0,h1,h2]
theorem jD {n b:Nat} (h:n*b≤140737488355328) (h2:n≤4611686018427387904):mkb (n:Int) b=true:=by
  simp only [mkb,Bool.and_eq_true,decide_eq_true_eq,Int.toNat_natCast]; omega
theorem flex_ok {lvl n:Nat} (T:Int) (L:List Int) (hL:L.length≤10000) (hn:10001<n) (hlv:20010≤lvl):lM (KN lvl) n T L=some (share (lim T mx) (wts L)):=by
  unfold lM
  have hT:0≤lim T mx∧lim T mx≤2147483647:=lim_bd (m:=mx) (by decide)
  simp only [iM,sb,jD (show L.length*8≤140737488355328 by omega) (by omega),bx,tnat]
  have h1:=f_sum (K:=KN lvl) (n:=n) L (lim T mx) (List.replicate L.length 0) (List.replicate L.length 0) (List.replicate L.length 0) hL n 0 (by omega) (by omega)
  rw [show sm ((wts L).take 0)=0 from rfl,show ((0:Nat):Int)=0 from rfl] at h1
  rw [show min (max T 0) 2147483647=lim T mx from rfl,h1]
  have hsm:=sm_wts hL
  by_cases hz:sm (wts L)=0
  · rw [if_pos (by simp [hz])]
    unfold share
    rw [if_pos hz,c7]
  · rw [if_neg (by simp [hz])]
    have hS:0<sm (wts L):=by omega
    have h2:=f_parts (K:=KN lvl) (n:=n) L (lim T mx) hT hL hS n 0 (by omega) (by omega)
    simp only [List.take_zero,List.map_nil,List.nil_append,Nat.sub_zero,sm,Int.sub_zero,show idx 0=[] from rfl] at h2
    rw [show ((0:Nat):Int)=0 from rfl] at h2
    rw [h2]
    obtain ⟨d,o1,o2⟩:=sorted ((wts L).map (r (lim T mx) (sm (wts L)))) (lvl:=lvl) (n:=n) hn (by simp [c7,hL]) hlv
    rw [List.length_map,c7] at o2
    rw [o2,sb]
    have hd:d.length=L.length:=by rw [o1.len,List.length_map,c7]
    have hlb:=pN (lim T mx) (wts L) hS
    rw [c7] at hlb
    rw [gT (by omega) hlb.1 (by rw [hd]; exact hlb.2),bx]
    rw [show (0:Int).toNat=0 from rfl,List.drop_zero]
    rw [share_inc (lim T mx) (wts L) d (fun w hw=>(fm L w hw).1) (by omega) o1]
    have:=f_inc (K:=KN lvl) (n:=n) (d.take (left (lim T mx) (wts L)).toNat) (by simp; omega) n 0 ((wts L).map (q (lim T mx) (sm (wts L)))) (by omega) (by simp; omega) (fun x hx=>by
      obtain ⟨k,hk,rfl⟩:=o1.mem.1 (List.mem_of_mem_take hx)
      simp at hk; simp; omega) (fun x hx=>by
      obtain ⟨w,hw,rfl⟩:=List.mem_map.1 hx
      have:=q_bd hS hT.1 (fm L w hw).1 (jF _ (fun w hw=>(fm L w hw).1) w hw)
      have h3:(d.take (left (lim T mx) (wts L)).toNat).length≤10000:=by simp; omega
      omega)
    rw [show ((0:Nat):Int)=0 from rfl,List.drop_zero] at this
    exact this
end Sh
end Go.Proofs.Ytolhpahjgddjkaa
namespace Go.Proofs.Ytolhpahjgddjkaa
set_option linter.all false
open Go.RowKit
namespace Sh
theorem share_at {T:Int} {W:List Int} (hS:sm W≠0) {k:Nat} (hk:k<W.length):(share T W).getD k default=part T W k:=by
  rw [bO (by rw [eb]; exact hk)]
  unfold share
  simp [hS]
theorem qG {T:Int} {W:List Int} (hS:sm W=0):share T W=List.replicate W.length 0:=by unfold share; rw [if_pos hS]
theorem kS:∀ n:Nat,sm (List.replicate n 0)=0
  | 0=>rfl
  | n+1=>by simp [List.replicate_succ,sm,kS n]
theorem oD {T:Int} {W:List Int} (hW:∀ w∈W,0≤w) (hS:sm W≠0) (hl:W.length≤10000):sm (share T W)=T:=by
  have hS0:0<sm W:=by have:=cK W hW; omega
  obtain ⟨d,o1,o2⟩:=sorted (W.map (r T (sm W))) (lvl:=20010) (n:=10002) (by omega) (by simpa using hl) (Nat.le_refl _)
  have hlb:=pN T W hS0
  have hd:d.length=W.length:=by rw [o1.len,List.length_map]
  rw [share_inc T W d hW hS o1,inc_sum _ _ (fun i hi=>by
    obtain ⟨j,hj,rfl⟩:=o1.mem.1 (List.mem_of_mem_take hi)
    simp at hj ⊢; omega)]
  have:(d.take (left T W).toNat).length=(left T W).toNat:=by simp; omega
  rw [this]
  unfold left at *
  omega
theorem part_bd {T:Int} {W:List Int} (hW:∀ w∈W,0≤w) (hT:0≤T) (hS:0<sm W) {k:Nat} (hk:k<W.length):0≤part T W k∧part T W k≤T+1:=by
  have hm:W.getD k default∈W:=by rw [bO hk]; exact List.getElem_mem _
  have:=q_bd hS hT (hW _ hm) (jF W hW _ hm)
  unfold part
  split<;>omega
end Sh
end Go.Proofs.Ytolhpahjgddjkaa
namespace Go.Proofs.Ytolhpahjgddjkaa.Tb
set_option linter.all false
open Go.RowKit
open Sh (share wts lim mx cK d6 c7 nY fm eb kS)
open QSort (wn aE iteT iteF sb)
set_option maxRecDepth 20000
def sz (x:Int):Int:=min (max x 0) 1048576
theorem dn (x:Int):0≤sz x∧sz x≤1048576:=by unfold sz; omega
variable {K:Kn} {n:Nat}
theorem jm (x:Int):fl K n x=some (sz x):=rfl
def pos (L:List Int):Bool:=L.any fun w=>decide (w>0)
theorem index_ok {lvl n:Nat} (L:List Int) (hl:L.length≤10000):∀ (m i:Nat),i≤L.length→L.length<m+i →
    ∃ x,jY (KN (lvl+1)) n L (Fv.fn 62) m (i:Int)=some x∧decide (x≥0)=pos (L.drop i):=by
  intro m
  induction m with
  | zero=>intro i h1 h2; omega
  | succ m ih =>
    intro i h1 h2
    simp only [jY,nR]
    by_cases hi:i<L.length
    · rw [iteT (by omega),aE (by omega),tnat]
      have e:(KN (lvl+1)).oA (Fv.fn 62) (L.getD i default)=some (decide (L.getD i default>0)):=rfl
      rw [e,sb,List.drop_eq_getElem_cons hi]
      have e2:pos (L[i]::L.drop (i+1))=(decide (L.getD i default>0) || pos (L.drop (i+1))):=by rw [bO hi]; rfl
      by_cases hp:L.getD i default>0
      · rw [iteT hp,e2]; exact ⟨_,rfl,by simp only [hp,decide_true,Bool.true_or,decide_eq_true_eq]; omega⟩
      · rw [iteF hp,e2,wn (n:=(i:Int)+1) (k:=i+1) (by omega) (by omega)]
        obtain ⟨x,e3,e4⟩:=ih (i+1) (by omega) (by omega)
        exact ⟨x,e3,by rw [e4]; simp only [hp,decide_false,Bool.false_or]⟩
    · rw [iteF (by omega),List.drop_eq_nil_of_le (by omega)]
      exact ⟨_,rfl,rfl⟩
theorem contains_ok {lvl n:Nat} (L:List Int) (hl:L.length≤10000) (hn:10000<n) (hlv:0<lvl):oq (KN lvl) n L (Fv.fn 62)=some (pos L):=by
  obtain ⟨k,rfl⟩:∃ k,lvl=k+1:=⟨lvl - 1,by omega⟩
  unfold oq qV
  obtain ⟨x,e,e2⟩:=index_ok (lvl:=k) (n:=n) L hl n 0 (by omega) (by omega)
  rw [show ((0:Nat):Int)=0 from rfl] at e
  rw [e,sb,e2]; rfl
theorem and_low {x:Nat} (h:x≤10000):iand .u64 (x:Int) 4294967295=(x:Int):=by
  unfold iand
  have e1:BitVec.ofInt (IntKind.bits .u64) (x:Int)=BitVec.ofNat 64 x:=BitVec.ofInt_natCast 64 x
  have e2:BitVec.ofInt (IntKind.bits .u64) (4294967295:Int)=BitVec.ofNat 64 4294967295:=rfl
  have e3:(BitVec.ofNat 64 x &&& BitVec.ofNat 64 4294967295).toNat=x:=by
    rw [BitVec.toNat_and,BitVec.toNat_ofNat,BitVec.toNat_ofNat,Nat.mod_eq_of_lt (by omega),Nat.mod_eq_of_lt (by omega),show (4294967295:Nat)=2 ^ 32 - 1 from rfl,Nat.and_two_pow_sub_one_eq_mod]
    omega
  have e4:(BitVec.ofInt (IntKind.bits .u64) (x:Int) &&& BitVec.ofInt (IntKind.bits .u64) (4294967295:Int)).toNat=x:=by rw [e1,e2]; exact e3
  rw [e4,IntKind.wrap_u64]; omega
theorem mul_ok {c:Nat} (h:c≤10000):pJ K n 1 (c:Int)=some ((0:Int),(c:Int)):=by
  unfold pJ ra
  have a1:iand .u64 (1:Int) 4294967295=1:=and_low (x:=1) (by omega)
  have a0:iand .u64 (0:Int) 4294967295=0:=and_low (x:=0) (by omega)
  have w0:IntKind.wrap .u64 0=0:=by rw [IntKind.wrap_u64]; rfl
  have wc:IntKind.wrap .u64 (c:Int)=c:=by rw [IntKind.wrap_u64]; omega
  have d1:(1:Int) / 4294967296=0:=by decide
  have dc:(c:Int) / 4294967296=0:=by omega
  simp only [Option.bind_some,and_low h,a1,d1,dc,Int.zero_mul,Int.mul_zero,Int.one_mul,w0,wc,Int.add_zero,a0,Int.zero_add,Int.zero_ediv]
theorem rep_loop (c:Nat) (hc:c≤10000):∀ (m a:Nat),0<a→a≤c→c<m+a →
    mc K n m (a:Int) (List.replicate a 1++List.replicate (c - a) 0)=some (List.replicate c 1):=by
  intro m
  induction m with
  | zero=>intro i h1 h2; omega
  | succ m ih =>
    intro a h0 h1 h2
    have hl:(List.replicate a (1:Int)++List.replicate (c - a) 0).length=c:=by simp; omega
    simp only [mc,m9,hl]
    by_cases hi:a<c
    · rw [iteT (by omega),Sh.gT (by omega) (by omega) (by omega),bx,Sh.gT (by omega) (by omega) (by omega),bx]
      have e1:cpb ((a:Int)).toNat (((c:Int)).toNat - ((a:Int)).toNat) c ((0:Int).toNat) (((a:Int)).toNat - (0:Int).toNat) c=true:=by
        simp only [cpb,Bool.and_eq_true,decide_eq_true_eq]; omega
      rw [e1,bx]
      have e2:cpy (List.replicate a (1:Int)++List.replicate (c - a) 0) ((a:Int)).toNat (((c:Int)).toNat - ((a:Int)).toNat) (List.replicate a (1:Int)++List.replicate (c - a) 0) ((0:Int).toNat) (((a:Int)).toNat - (0:Int).toNat)=List.replicate (a+min a (c - a)) (1:Int)++List.replicate (c - (a+min a (c - a))) 0:=by
        simp only [tnat,Int.toNat_zero,Nat.sub_zero]
        unfold cpy
        rw [List.drop_zero,List.take_append_of_le_length (by simp),List.take_append_of_le_length (by simp; omega),List.take_replicate,List.take_replicate,Nat.min_self,show List.drop (a+min a (c - a)) (List.replicate a (1:Int)++List.replicate (c - a) 0)=List.replicate (c - (a+min a (c - a))) 0 by
          rw [List.drop_append,List.drop_eq_nil_of_le (by simp),List.nil_append,List.drop_replicate]; congr 1; simp; omega,← List.append_assoc,List.replicate_append_replicate]
        congr 2
        omega
      rw [e2]
      have e3:w64 ((a:Int)+((min (((a:Int)).toNat - (0:Int).toNat) (((c:Int)).toNat - ((a:Int)).toNat):Nat):Int))=((a+min a (c - a):Nat):Int):=by
        simp only [tnat,Int.toNat_zero,Nat.sub_zero]
        exact wn (by omega) (by omega)
      rw [e3]
      exact ih (a+min a (c - a)) (by omega) (by omega) (by omega)
    · obtain rfl:a=c:=by omega
      rw [iteF (by omega),Nat.sub_self,List.replicate_zero,List.append_nil]
theorem repeat_ok {n:Nat} (c:Nat) (hc:c≤10000) (hn:10000<n):mN K n [1] (c:Int)=some (List.replicate c 1):=by
  unfold mN
  have w1:IntKind.wrap .u64 (((([1]:List Int).length:Nat)):Int)=1:=by rw [IntKind.wrap_u64]; rfl
  have wc:IntKind.wrap .u64 (c:Int)=c:=by rw [IntKind.wrap_u64]; omega
  rw [iteF (by omega),w1,wc,mul_ok hc,sb,iteF (by simp)]
  unfold nZ
  have hw:w64 (c:Int)=c:=b9 (by omega) (by omega)
  simp only [hw,tnat,Option.bind_some,List.length_replicate,show decide ((c:Int)>9223372036854775807)=false by simp; omega,Bool.false_eq_true,if_false]
  rw [Sh.jD (by omega) (by omega),bx,show cpb 0 c c 0 ([1]:List Int).length ([1]:List Int).length=true by simp [cpb],bx]
  by_cases h0:c=0
  · subst h0
    obtain ⟨k,rfl⟩:∃ k,n=k+1:=⟨n - 1,by omega⟩
    rfl
  · have e:cpy (List.replicate c (0:Int)) 0 c [1] 0 ([1]:List Int).length=List.replicate 1 (1:Int)++List.replicate (c - 1) 0:=by
      obtain ⟨k,rfl⟩:∃ k,c=k+1:=⟨c - 1,by omega⟩
      simp [cpy,List.replicate_succ]
    rw [e,show ((min ([1]:List Int).length c:Nat):Int)=((1:Nat):Int) by simp; omega]
    exact rep_loop c hc n 1 (by omega) (by omega) (by omega)
def eqw (W:List Int):List Int:=if pos W=true then W else List.replicate W.length 1
theorem dZ (W:List Int):(eqw W).length=W.length:=by unfold eqw; split<;>simp
theorem tshare_ok {lvl n:Nat} (T:Int) (W:List Int) (hl:W.length≤10000) (hn:10001<n) (hlv:20010≤lvl):g8 (KN lvl) n T W=some (share (lim T mx) (wts (eqw W))):=by
  unfold g8 pL
  rw [contains_ok W hl (by omega) (by omega),sb]
  unfold eqw
  cases hp:pos W
  · simp only [Bool.not_false,if_true,Bool.false_eq_true,if_false]
    rw [repeat_ok W.length hl (by omega),sb,Sh.flex_ok T (List.replicate W.length 1) (by simpa using hl) (by omega) (by omega)]; rfl
  · simp only [Bool.not_true,Bool.false_eq_true,if_false,if_true]
    rw [Sh.flex_ok T W hl (by omega) (by omega)]; rfl
end Go.Proofs.Ytolhpahjgddjkaa.Tb
namespace Go.Proofs.Ytolhpahjgddjkaa.Tb
set_option linter.all false
open Go.RowKit
open Sh (share wts lim mx cK d6 c7 nY fm eb kS)
open QSort (wn aE iteT iteF sb)
set_option maxRecDepth 20000
variable {K:Kn} {n:Nat}
def cA (c:am):Int:=sz c.Least
def cB (c:am):Int:=max (sz c.Most) (sz c.Least)
def cR (c:am):Int:=cB c - cA c
theorem c_bd (c:am):0≤cA c∧cA c≤cB c∧cB c≤1048576:=by
  have h1:=dn c.Least; have h2:=dn c.Most
  unfold cA cB; omega
def Z (L:List am):List Int:=List.replicate L.length 0
def adds (A P:List Int):List Int:=tab A.length fun k=>A.getD k default+P.getD k default
theorem dH (A P:List Int):(adds A P).length=A.length:=cJ _ _
theorem gz {A P:List Int} {k:Nat} (h:k<A.length):(adds A P).getD k default=A.getD k default+P.getD k default:=eu h
theorem dk {f:am→Int} {L:List am} {k:Nat} (h:k<L.length):(L.map f).getD k default=f (L.getD k default):=by simp [List.getD_eq_getElem?_getD,h]
theorem rL {f:am→Int} {L:List am} {i:Nat} (h:i<L.length):sm ((L.map f).take (i+1))=sm ((L.map f).take i)+f (L.getD i default):=by
  rw [Sh.gV (by simpa using h),dk h]
theorem sv {f:am→Int} (hf:∀ c,0≤f c∧f c≤1048576) (L:List am) (hl:L.length≤10000) (i:Nat):0≤sm ((L.map f).take i)∧sm ((L.map f).take i)≤10485760000:=by
  refine ⟨cK _ (fun x hx=>?_),?_⟩
  · obtain ⟨c,_,rfl⟩:=List.mem_map.1 (List.mem_of_mem_take hx); exact (hf c).1
  · have h1:=d6 (c:=1048576) ((L.map f).take i) (fun x hx=>by obtain ⟨c,_,rfl⟩:=List.mem_map.1 (List.mem_of_mem_take hx); exact (hf c).2)
    have h2:(((L.map f).take i).length:Int)≤10000:=by simp; omega
    have:=Int.mul_le_mul_of_nonneg_right h2 (show (0:Int)≤1048576 by omega)
    omega
theorem fA (c:am):0≤cA c∧cA c≤1048576:=by have:=c_bd c; omega
theorem fB (c:am):0≤cB c∧cB c≤1048576:=by have:=c_bd c; omega
theorem fR (c:am):0≤cR c∧cR c≤1048576:=by have:=c_bd c; unfold cR; omega
theorem sm_bd' {f:am→Int} (hf:∀ c,0≤f c∧f c≤1048576) (L:List am) (hl:L.length≤10000):0≤sm (L.map f)∧sm (L.map f)≤10485760000:=by
  have:=sv hf L hl (L.map f).length
  rwa [List.take_length] at this
def divide (L:List am) (w:Int):List Int :=
  if w≤sm (L.map cA) then L.map cA
  else if w<sm (L.map cB) then adds (L.map cA) (share (sz (w - sm (L.map cA))) (L.map cR))
  else adds (L.map cB) (share (sz (w - sm (L.map cB))) (eqw (L.map cB)))
theorem wts_id {W:List Int} (h:∀ w∈W,0≤w∧w≤2147483647):wts W=W:=by
  unfold wts
  conv=>rhs; rw [←List.map_id W]
  refine List.map_congr_left (fun w hw=>?_)
  have:=h w hw
  unfold lim mx; simp; omega
theorem lim_sz (x:Int):lim (sz x) mx=sz x:=by have:=dn x; unfold lim mx; omega
theorem gb {W:List Int} (h:∀ w∈W,0≤w∧w≤2147483647):∀ w∈eqw W,0≤w∧w≤2147483647:=by
  unfold eqw; split
  · exact h
  · intro w hw; have:=(List.mem_replicate.1 hw).2; omega
theorem fI {f:am→Int} (hf:∀ c,0≤f c∧f c≤1048576) (L:List am):∀ w∈L.map f,0≤w∧w≤2147483647:=by
  intro w hw; obtain ⟨c,_,rfl⟩:=List.mem_map.1 hw; have:=hf c; omega
theorem take_map (f:am→Int) {L:List am}:(L.map f).take L.length=L.map f:=List.take_of_length_le (by simp)
theorem mix_map (f:am→Int) {L:List am}:mix L.length (L.map f) (Z L)=L.map f:=by
  have h:(L.map f).length=(Z L).length:=by simp [Z]
  have:=gn h
  rwa [show (Z L).length=L.length by simp [Z]] at this
theorem d_l3 (A P:List Int) (hAP:A.length=P.length) (hl:A.length≤10000) (hb:∀ k,k<A.length → -4611686018427387904≤A.getD k default+P.getD k default∧A.getD k default+P.getD k default≤4611686018427387904):∀ (m i:Nat),i≤A.length→A.length<m+i →
    lw K n P m (i:Int) (mix i (adds A P) A)=some (adds A P):=by
  intro m
  induction m with
  | zero=>intro i h1 h2; omega
  | succ m ih =>
    intro i h1 h2
    simp only [lw,oC]
    have hm:=dK (i:=i) (dH A P)
    by_cases hi:i<A.length
    · rw [iteT (by omega),aE (by omega),hm,aE (by omega),aE (by omega)]
      simp only [tnat]
      have:=hb i hi
      rw [jO (dH A P) hi,show w64 (A.getD i default+P.getD i default)=(adds A P).getD i default by rw [gz hi]; exact b9 (by omega) (by omega),eM (dH A P) hi,wn (n:=(i:Int)+1) (k:=i+1) (by omega) (by omega)]
      exact ih (i+1) (by omega) (by omega)
    · obtain rfl:i=A.length:=by omega
      rw [iteF (by omega),gn (dH A P)]
theorem d_add (A P:List Int) (hAP:A.length=P.length) (hl:A.length≤10000) (hn:10001<n) (hb:∀ k,k<A.length → -4611686018427387904≤A.getD k default+P.getD k default∧A.getD k default+P.getD k default≤4611686018427387904):ny K n A P=some (adds A P):=by
  have:=d_l3 (K:=K) (n:=n) A P hAP hl hb n 0 (by omega) (by omega)
  rwa [gC] at this
theorem gX {T:Int} {W:List Int} (hT:0≤T∧T≤1048576) (hW:∀ w∈W,0≤w) (k:Nat) (hk:k<W.length):0≤(share T W).getD k default∧(share T W).getD k default≤1048577:=by
  by_cases hS:sm W=0
  · rw [Sh.qG hS]; simp [List.getD_eq_getElem?_getD,hk]
  · rw [Sh.share_at hS hk]
    have:=Sh.part_bd hW hT.1 (by have:=cK W hW; omega) hk
    omega
theorem d_l1 {lvl n:Nat} (L:List am) (w:Int) (hw:w≤9223372036854775807) (hl:L.length≤10000) (hn:10001<n) (hlv:20010≤lvl):∀ (m i:Nat),i≤L.length→L.length<m+i →
    lV (KN lvl) n L w m (sm ((L.map cA).take i)) (sm ((L.map cB).take i)) (i:Int) (mix i (L.map cA) (Z L)) (mix i (L.map cB) (Z L)) (mix i (L.map cR) (Z L))=some (divide L w):=by
  have zl:(Z L).length=L.length:=by simp [Z]
  have lA:(L.map cA).length=(Z L).length:=by simp [Z]
  have lB:(L.map cB).length=(Z L).length:=by simp [Z]
  have lR:(L.map cR).length=(Z L).length:=by simp [Z]
  intro m
  induction m with
  | zero=>intro i h1 h2; omega
  | succ m ih =>
    intro i h1 h2
    simp only [lV,oM]
    have mA:=dK (i:=i) lA; have mB:=dK (i:=i) lB; have mR:=dK (i:=i) lR
    have mA':=dK (i:=i+1) lA; have mB':=dK (i:=i+1) lB; have mR':=dK (i:=i+1) lR
    rw [zl] at mA mB mR mA' mB' mR'
    by_cases hi:i<L.length
    · have hi':i<(Z L).length:=by omega
      have eA:List.set (mix i (L.map cA) (Z L)) i (sz (L.getD i default).Least)=mix (i+1) (L.map cA) (Z L):=by
        rw [←eM lA hi',dk hi]; rfl
      have gA:(mix (i+1) (L.map cA) (Z L)).getD i default=cA (L.getD i default):=by rw [tE lA hi',dk hi]
      have eB:List.set (mix i (L.map cB) (Z L)) i (max (sz (L.getD i default).Most) (cA (L.getD i default)))=mix (i+1) (L.map cB) (Z L):=by
        rw [←eM lB hi',dk hi]; rfl
      have gB:(mix (i+1) (L.map cB) (Z L)).getD i default=cB (L.getD i default):=by rw [tE lB hi',dk hi]
      have bc:=c_bd (L.getD i default)
      have eR:List.set (mix i (L.map cR) (Z L)) i (w64 (cB (L.getD i default) - cA (L.getD i default)))=mix (i+1) (L.map cR) (Z L):=by
        rw [←eM lR hi',dk hi,b9 (by omega) (by omega)]; rfl
      have bA:=sv fA L hl i; have bB:=sv fB L hl i
      rw [iteT (by omega),aE (by omega)]
      simp only [tnat,jm,sb]
      rw [mA,aE (by omega),eA,gA,mA',aE (by omega),mB,aE (by omega),eB,gB,mB',aE (by omega),aE (by omega),mR,aE (by omega),eR,aE (by omega),aE (by omega)]
      rw [b9 (n:=sm ((L.map cA).take i)+cA (L.getD i default)) (by omega) (by omega),b9 (n:=sm ((L.map cB).take i)+cB (L.getD i default)) (by omega) (by omega),← rL hi,← rL hi,wn (n:=(i:Int)+1) (k:=i+1) (by omega) (by omega)]
      exact ih (i+1) (by omega) (by omega)
    · obtain rfl:i=L.length:=by omega
      rw [iteF (by omega)]
      rw [take_map cA,take_map cB,mix_map cA,mix_map cB,mix_map cR]
      have bA:=sm_bd' fA L hl; have bB:=sm_bd' fB L hl
      unfold divide
      by_cases h1:w≤sm (L.map cA)
      · rw [iteT h1,if_pos h1]
      · rw [iteF h1,if_neg h1]
        by_cases h2:w<sm (L.map cB)
        · rw [iteT h2,if_pos h2,b9 (by omega) (by omega),jm,sb,Sh.flex_ok _ _ (by simpa using hl) (by omega) (by omega),sb,lim_sz,wts_id (fI fR L)]
          refine d_add _ _ (by rw [eb]; simp) (by simpa using hl) hn (fun k hk=>?_)
          have hk':k<L.length:=by simpa using hk
          have b1:=gX (dn (w - sm (L.map cA))) (fun x hx=>(fI fR L x hx).1) k (by simpa using hk')
          have b2:=fA (L.getD k default)
          rw [dk hk']; omega
        · rw [iteF h2,if_neg h2,b9 (by omega) (by omega),jm,sb,tshare_ok _ _ (by simpa using hl) (by omega) (by omega),sb,lim_sz,wts_id (gb (fI fB L))]
          refine d_add _ _ (by rw [eb,dZ]) (by simpa using hl) hn (fun k hk=>?_)
          have hk':k<L.length:=by simpa using hk
          have b1:=gX (dn (w - sm (L.map cB))) (fun x hx=>(gb (fI fB L) x hx).1) k (by rw [dZ]; simpa using hk')
          have b2:=fB (L.getD k default)
          rw [dk hk']; omega
theorem rR {lvl n:Nat} (L:List am) (w:Int) (hw:w≤9223372036854775807) (hl:L.length≤10000) (hn:10001<n) (hlv:20010≤lvl):kO (KN lvl) n L w=some (divide L w):=by
  unfold kO
  simp only [Sh.jD (n:=L.length) (b:=8) (by omega) (by omega),bx,sb,tnat]
  have:=d_l1 (lvl:=lvl) (n:=n) L w hw hl hn hlv n 0 (by omega) (by omega)
  simp only [gC,List.take_zero] at this
  exact this
theorem lx (L:List am) (w:Int):(divide L w).length=L.length:=by
  unfold divide; split
  · simp
  · split<;>simp [dH]
end Go.Proofs.Ytolhpahjgddjkaa.Tb
namespace Go.Proofs.Ytolhpahjgddjkaa.Tb
set_option linter.all false
open Go.RowKit
open Sh (idx fh gq jw iP)
open QSort (wn aE iteT iteF sb R)
set_option maxRecDepth 20000
variable {K:Kn} {n:Nat}
def grp (key:Int→Int) (V:List Int):Nat→List Int
  | 0=>[]
  | N+1=>grp key V N++V.filter fun i=>key i == ((N+1:Nat):Int)
theorem mf {key:Int→Int} {V:List Int} {x:Int}:∀ {N:Nat},x∈grp key V N→x∈V∧key x≤N
  | 0,h=>by simp [grp] at h
  | N+1,h=>by
    simp only [grp,List.mem_append,List.mem_filter,beq_iff_eq] at h
    rcases h with h | h
    · have:=mf h; exact ⟨this.1,by omega⟩
    · exact ⟨h.1,by omega⟩
theorem re {key:Int→Int} {V:List Int} (hk:∀ v∈V,1≤key v):∀ N:Nat,(grp key V N).Perm (V.filter fun i=>decide (key i≤N))
  | 0=>by
    have:V.filter (fun i=>decide (key i≤((0:Nat):Int)))=[]:=by
      rw [List.filter_eq_nil_iff]; intro a ha; have:=hk a ha; simp; omega
    rw [this]; exact List.Perm.refl _
  | N+1=>by
    have h1:=(re hk N).append_right (V.filter fun i=>key i == ((N+1:Nat):Int))
    refine h1.trans ?_
    have h2:=List.filter_append_perm (fun i=>decide (key i≤(N:Int))) (V.filter fun i=>decide (key i≤((N+1:Nat):Int)))
    rw [List.filter_filter,List.filter_filter] at h2
    have e1:V.filter (fun a=>decide (key a≤(N:Int)) && decide (key a≤((N+1:Nat):Int)))=V.filter fun i=>decide (key i≤(N:Int)) :=
      List.filter_congr fun x _=>by
        by_cases h:key x≤(N:Int)
        · have:key x≤((N+1:Nat):Int):=by omega
          simp only [h,this,decide_true,Bool.and_true]
        · simp only [h,decide_false,Bool.false_and]
    have e2:V.filter (fun a=>(!decide (key a≤(N:Int))) && decide (key a≤((N+1:Nat):Int)))=V.filter fun i=>key i == ((N+1:Nat):Int) :=
      List.filter_congr fun x _=>by
        by_cases h:key x=((N+1:Nat):Int)
        · have h3:¬ key x≤(N:Int):=by omega
          have h4:key x≤((N+1:Nat):Int):=by omega
          rw [beq_iff_eq.2 h]; simp only [h3,h4,decide_false,decide_true,Bool.not_false,Bool.and_true]
        · rw [beq_false_of_ne h]
          by_cases h3:key x≤(N:Int)
          · simp only [h3,decide_true,Bool.not_true,Bool.false_and]
          · have h4:¬ key x≤((N+1:Nat):Int):=by omega
            simp only [h4,decide_false,Bool.and_false]
    rw [e1,e2] at h2
    exact h2
theorem grp_pair {key:Int→Int} {V:List Int} (hV:V.Pairwise (· < ·)):∀ N:Nat,(grp key V N).Pairwise (R key)
  | 0=>List.Pairwise.nil
  | N+1=>by
    refine List.pairwise_append.2 ⟨grp_pair hV N,?_,fun a ha b hb=>?_⟩
    · refine List.Pairwise.imp_of_mem ?_ (hV.filter _)
      intro a b ha hb hab
      have h1:=(List.mem_filter.1 ha).2; have h2:=(List.mem_filter.1 hb).2
      simp only [beq_iff_eq] at h1 h2
      right; exact ⟨by omega,hab⟩
    · have h1:=(mf ha).2; have h2:=(List.mem_filter.1 hb).2
      simp only [beq_iff_eq] at h2
      left; omega
theorem grp_eq {key:Int→Int} {V d:List Int} {N:Nat} (hp:d.Perm V) (hs:d.Pairwise (R key)) (hV:V.Pairwise (· < ·)) (hk:∀ v∈V,1≤key v∧key v≤N):d=grp key V N:=by
  have h:=re (fun v hv=>(hk v hv).1) N
  have e:V.filter (fun i=>decide (key i≤(N:Int)))=V:=List.filter_eq_self.2 fun a ha=>by have:=(hk a ha).2; simpa using this
  rw [e] at h
  exact List.Perm.eq_of_pairwise (fun a b _ _ h1 h2=>(h1.asymm h2).elim) hs (grp_pair hV N) (hp.trans h.symm)
def okp (p:ae):Bool:=decide (p.Row≥0) && (decide (p.Col≥0) && (decide (p.Rows≥1) && decide (p.Cols≥1)))
def plc (L:List ae) (i:Int):ae:=L.getD i.toNat default
def val (L:List ae) (q:ae→Bool) (c:Nat):List Int:=(idx (min L.length c)).filter fun i=>okp (plc L i) && q (plc L i)
theorem qt {L:List ae} {q:ae→Bool} {c:Nat} {x:Int} (h:x∈val L q c):0≤x∧x.toNat<L.length∧x.toNat<c∧okp (plc L x)=true∧q (plc L x)=true:=by
  obtain ⟨h1,h2⟩:=List.mem_filter.1 h
  obtain ⟨k,hk,rfl⟩:=gq.1 h1
  simp only [Bool.and_eq_true] at h2
  exact ⟨by omega,by omega,by omega,h2.1,h2.2⟩
theorem val_lt (L:List ae) (q:ae→Bool) (c:Nat):(val L q c).Pairwise (· < ·):=(jw _).filter _
theorem kN (L:List ae) (q:ae→Bool) (c:Nat):(val L q c).length≤L.length:=by
  have:=List.length_filter_le (fun i=>okp (plc L i) && q (plc L i)) (idx (min L.length c))
  rw [fh] at this; unfold val; omega
theorem span_l3 {lvl n:Nat} {f s:Fv} {q:ae→Bool} {sp:ae→Int} (hq:∀ p,K.l4 f p=some (q p)) (L:List ae) (c:Nat) (hl:L.length≤10000):∀ (m i:Nat),i≤L.length→L.length<m+i →
    jR K n L (c:Int) f s m (i:Int) (val (L.take i) q c)=(gh K n (val L q c) (Fv.c65 s L)).bind fun v=>some v:=by
  have hv:∀ i:Nat,i<L.length→val (L.take (i+1)) q c=val (L.take i) q c++(if i<c∧okp (L.getD i default)=true∧q (L.getD i default)=true then [(i:Int)] else []):=by
    intro i hi
    have pe:∀ (a:Nat) (k:Nat),k<a→a≤L.length→plc (L.take a) (k:Int)=L.getD k default:=by
      intro a k hk ha
      unfold plc; rw [tnat,List.getD_eq_getElem?_getD,List.getElem?_take_of_lt hk,List.getD_eq_getElem?_getD]
    have fe:∀ a b:Nat,b≤a→a≤L.length→(idx b).filter (fun i=>okp (plc (L.take a) i) && q (plc (L.take a) i))=(idx b).filter (fun i=>okp (plc L i) && q (plc L i)):=by
      intro a b hb ha
      refine List.filter_congr fun x hx=>?_
      obtain ⟨k,hk,rfl⟩:=gq.1 hx
      rw [pe a k (by omega) ha]; unfold plc; rw [tnat]
    unfold val
    rw [List.length_take,List.length_take,fe (i+1) _ (by omega) (by omega),fe i _ (by omega) (by omega)]
    by_cases hc:i<c
    · rw [show min (min (i+1) L.length) c=i+1 by omega,show min (min i L.length) c=i by omega,iP,List.filter_append]
      congr 1
      have:plc L (i:Int)=L.getD i default:=by unfold plc; rw [tnat]
      generalize L.getD i default=p at this
      cases h1:okp p<;>cases h2:q p<;>simp [List.filter,this,h1,h2,hc]
    · rw [show min (min (i+1) L.length) c=c by omega,show min (min i L.length) c=c by omega,if_neg (by omega),List.append_nil]
  intro m
  induction m with
  | zero=>intro i h1 h2; omega
  | succ m ih =>
    intro i h1 h2
    simp only [jR,oG]
    by_cases hi:i<L.length
    · rw [iteT (by omega),aE (by omega)]
      simp only [tnat]
      have hs:=hv i hi
      have hnext:=ih (i+1) (by omega) (by omega)
      have hF:¬ (i<c∧okp (L.getD i default)=true∧q (L.getD i default)=true)→fw K n L (c:Int) f s (i:Int) (val (L.take i) q c) (jR K n L (c:Int) f s m) false=(gh K n (val L q c) (Fv.c65 s L)).bind fun v=>some v:=by
        intro h
        rw [if_neg h,List.append_nil] at hs
        rw [hs] at hnext
        simp only [fw,kf,Bool.false_eq_true,if_false]
        rw [wn (n:=(i:Int)+1) (k:=i+1) (by omega) (by omega)]; exact hnext
      have ho:∀ p:ae,okp p=true↔p.Row≥0∧p.Col≥0∧p.Rows≥1∧p.Cols≥1:=fun p=>by simp [okp]
      by_cases k1:(i:Int)<(c:Int)
      · rw [iteT k1]
        by_cases k2:(L.getD i default).Row≥0
        · rw [iteT k2]
          by_cases k3:(L.getD i default).Col≥0
          · rw [iteT k3]
            by_cases k4:(L.getD i default).Rows≥1
            · rw [iteT k4]
              by_cases k5:(L.getD i default).Cols≥1
              · rw [iteT k5,hq,sb]
                cases h6:q (L.getD i default)
                · exact hF (fun h=>by rw [h6] at h; exact absurd h.2.2 (by decide))
                · rw [if_pos ⟨by omega,(ho _).2 ⟨k2,k3,k4,k5⟩,h6⟩] at hs
                  simp only [fw,kf,if_true]
                  have hb:=kN (L.take i) q c
                  rw [List.length_take] at hb
                  rw [cP (by simp; omega) (by omega),bx,← hs,wn (n:=(i:Int)+1) (k:=i+1) (by omega) (by omega)]
                  exact hnext
              · rw [iteF k5]; exact hF (fun h=>k5 ((ho _).1 h.2.1).2.2.2)
            · rw [iteF k4]; exact hF (fun h=>k4 ((ho _).1 h.2.1).2.2.1)
          · rw [iteF k3]; exact hF (fun h=>k3 ((ho _).1 h.2.1).2.1)
        · rw [iteF k2]; exact hF (fun h=>k2 ((ho _).1 h.2.1).1)
      · rw [iteF k1]; exact hF (fun h=>k1 (by omega))
    · obtain rfl:i=L.length:=by omega
      rw [iteF (by omega),List.take_length]
theorem span_cmp {s:Fv} {sp:ae→Int} (L:List ae) (m:Nat) (hs:∀ p,(KN m).fW s p=some (sp p)):QSort.Cmp (KN (m+1)) (Fv.c65 s L) (fun a=>0≤a∧a<L.length) (fun i=>sp (plc L i)):=by
  refine ⟨fun a b ha hb=>?_⟩
  show ∃ c,ng (KN m) m a b s L=some c∧_
  unfold ng
  rw [aE ha,hs,sb,aE hb,hs,sb]
  simp only [j2,kR,sb,bne_self_eq_false,Bool.false_eq_true,if_false]
  show ∃ c,_∧(c<0↔sp (plc L a)<sp (plc L b))
  change ∃ c,Option.bind (if decide (sp (plc L a)<sp (plc L b))=true then some (-1) else if decide (sp (plc L a)>sp (plc L b))=true then some 1 else some 0) _=some c∧_
  by_cases h1:sp (plc L a)<sp (plc L b)
  · rw [iteT h1]; exact ⟨-1,rfl,by omega⟩
  · rw [iteF h1]
    by_cases h2:sp (plc L a)>sp (plc L b)
    · rw [iteT h2]; exact ⟨1,rfl,by omega⟩
    · rw [iteF h2]; exact ⟨0,rfl,by omega⟩
theorem sC {lvl n:Nat} {f s:Fv} {q:ae→Bool} {sp:ae→Int} (hq:∀ p,(KN lvl).l4 f p=some (q p)) (hs:∀ m p,(KN (m+1)).fW s p=some (sp p)) (L:List ae) (c N:Nat) (hl:L.length≤10000) (hn:10001<n) (hlv:20020≤lvl)
    (hk:∀ p,okp p=true→q p=true→1≤sp p∧sp p≤N):kG (KN lvl) n L (c:Int) f s=some (grp (fun i=>sp (plc L i)) (val L q c) N):=by
  unfold kG
  have h:=span_l3 (K:=KN lvl) (lvl:=lvl) (n:=n) (s:=s) (sp:=sp) hq L c hl n 0 (by omega) (by omega)
  rw [show val (L.take 0) q c=[] by simp [val,idx],show ((0:Nat):Int)=0 from rfl] at h
  rw [h]
  have hv:=kN L q c
  obtain ⟨d,h1,h2,h3⟩:=QSort.sort_ok (c0:=2) (f:=Fv.c65 s L) (D:=fun a=>0≤a∧a<L.length) (key:=fun i=>sp (plc L i)) (fun m hm=>by
    obtain ⟨k,rfl⟩:∃ k,m=k+2:=⟨m - 2,by omega⟩
    exact span_cmp L (k+1) (hs k)) (lvl:=lvl) (n:=n) (val L q c) hn (by omega) (val_lt L q c) (fun x hx=>by have:=qt hx; omega) (by omega)
  rw [h3,sb,grp_eq (N:=N) h1 h2 (val_lt L q c) (fun v hv=>by have:=qt hv; exact hk _ this.2.2.2.1 this.2.2.2.2)]
end Go.Proofs.Ytolhpahjgddjkaa.Tb
namespace Go.Proofs.Ytolhpahjgddjkaa.Tb
set_option linter.all false
open Go.RowKit
open Sh (idx fh gq jw iP cK d6)
open QSort (wn aE iteT iteF sb R)
set_option maxRecDepth 20000
variable {K:Kn} {n:Nat}
theorem gne {p:List Int} {i j:Nat} {x:Int} (h:i≠j):(p.set i x).getD j default=p.getD j default:=Sh.uq h
theorem geq {p:List Int} {i:Nat} {x:Int} (h:i<p.length):(p.set i x).getD i default=x:=Sh.sR h
def wsum (out:List Int) (a:Nat):Nat→Int
  | 0=>0
  | b+1=>wsum out a b+out.getD (a+b) default
def Ok (c:Int) (rows:Nat) (out:List Int):Prop:=out.length=rows∧∀ x∈out,0≤x∧x≤c
theorem Ok.at {c:Int} {rows:Nat} {out:List Int} (h:Ok c rows out) {k:Nat} (hk:k<rows):0≤out.getD k default∧out.getD k default≤c:=by
  have hk':k<out.length:=by rw [h.1]; exact hk
  rw [bO hk']; exact h.2 _ (List.getElem_mem _)
theorem Ok.set {c:Int} {rows:Nat} {out:List Int} (h:Ok c rows out) {k:Nat} {x:Int} (hx:0≤x∧x≤c):Ok c rows (List.set out k x):=by
  refine ⟨by simp [h.1],fun y hy=>?_⟩
  rcases List.mem_or_eq_of_mem_set hy with h1 | h1
  · exact h.2 y h1
  · subst h1; exact hx
theorem mK {c:Int} {rows:Nat} {out:List Int} (h:Ok c rows out) {a:Nat}:∀ b,a+b≤rows→0≤wsum out a b∧wsum out a b≤b*c
  | 0,_=>by simp [wsum]
  | b+1,hb=>by
    have h1:=mK h (a:=a) b (by omega); have h2:=h.at (k:=a+b) (by omega)
    have e:((b+1:Nat):Int)*c=b*c+c:=by rw [Int.natCast_succ,Int.add_mul,Int.one_mul]
    simp only [wsum]; omega
theorem wsum_ge {c:Int} {rows:Nat} {out:List Int} (h:Ok c rows out) {a k:Nat}:∀ b,a+b≤rows→a≤k→k<a+b→out.getD k default≤wsum out a b
  | 0,_,h1,h2=>by omega
  | b+1,hb,h1,h2=>by
    have h3:=mK h (a:=a) b (by omega); have h4:=h.at (k:=a+b) (by omega)
    by_cases e:k=a+b
    · subst e; simp only [wsum]; omega
    · have:=wsum_ge h b (by omega) h1 (by omega)
      simp only [wsum]; omega
theorem ql {x y:List Int} (h:∀ k,x.getD k default≤y.getD k default) (a:Nat):∀ b,wsum x a b≤wsum y a b
  | 0=>by simp [wsum]
  | b+1=>by have:=ql h a b; have:=h (a+b); simp only [wsum]; omega
theorem tT {x:List Int} {k a:Nat} {v:Int}:∀ b,(k<a∨a+b≤k)→wsum (List.set x k v) a b=wsum x a b
  | 0,_=>rfl
  | b+1,h=>by simp only [wsum]; rw [tT b (by omega),gne (by omega)]
theorem wsum_set {x:List Int} {k a:Nat} {v:Int} (hk:k<x.length):∀ b,a≤k→k<a+b→wsum (List.set x k v) a b=wsum x a b - x.getD k default+v
  | 0,h1,h2=>by omega
  | b+1,h1,h2=>by
    by_cases e:k=a+b
    · subst e; simp only [wsum]; rw [tT b (by omega),geq hk]; omega
    · simp only [wsum]; rw [wsum_set hk b h1 (by omega),gne e]; omega
theorem wsum_sm (x:List Int) (a:Nat):∀ b,a+b≤x.length→sm ((x.drop a).take b)=wsum x a b
  | 0,_=>by simp [wsum,sm]
  | b+1,h=>by
    have hb:b<(x.drop a).length:=by simp; omega
    rw [Sh.gV hb,wsum_sm x a b (by omega)]
    simp only [wsum]; congr 1
    simp [List.getD_eq_getElem?_getD,List.getElem?_drop]
theorem qg {c:Int} (hc:0≤c∧c≤4294967296) (l:List Int) (hl:l.length≤10000) (h:∀ x∈l,0≤x∧x≤c) (hn:10001<n):fN K n l=some (sm l):=by
  have loop:∀ (m i:Nat),i≤l.length→l.length<m+i→li K n l m (sm (l.take i)) (i:Int)=some (sm l):=by
    intro m
    induction m with
    | zero=>intro i h1 h2; omega
    | succ m ih =>
      intro i h1 h2
      simp only [li,ni]
      by_cases hi:i<l.length
      · have b1:=sm_bd (B:=c) hc.1 (l.take (i+1)) (fun x hx=>by have:=h x (List.mem_of_mem_take hx); omega)
        have b2:((l.take (i+1)).length:Int)≤10000:=by rw [List.length_take]; omega
        have b3:=Int.mul_le_mul_of_nonneg_right b2 hc.1
        rw [iteT (by omega),aE (by omega),tnat,← Sh.gV hi,wn (n:=(i:Int)+1) (k:=i+1) (by omega) (by omega),b9 (by omega) (by omega)]
        exact ih (i+1) (by omega) (by omega)
      · obtain rfl:i=l.length:=by omega
        rw [iteF (by omega),List.take_length]
  have:=loop n 0 (by omega) (by omega)
  simpa [fN,sm] using this
def hstep (L:List ae) (H out:List Int) (i:Int):List Int :=
  List.set out ((plc L i).Row.toNat+(plc L i).Rows.toNat - 1) (out.getD ((plc L i).Row.toNat+(plc L i).Rows.toNat - 1) default+max (sz (H.getD i.toNat default) - wsum out (plc L i).Row.toNat (plc L i).Rows.toNat) 0)
def qh (rows:Int) (p:ae):Bool:=decide (p.Row<rows) && decide (p.Rows≤w64 (rows - p.Row))
theorem qh_ok (v:Int) (p:ae):pt K n p v=some (qh v p):=by
  unfold pt pB qh
  by_cases h:p.Row<v
  · rw [iteT h]; simp only [h,decide_true,Bool.true_and]
  · rw [iteF h]; simp only [h,decide_false,Bool.false_and]
structure Vh (rows:Nat) (L:List ae) (H:List Int) (i:Int):Prop where
  i0:0≤i
  iL:i.toNat<L.length
  iH:i.toNat<H.length
  r0:0≤(plc L i).Row
  r1:1≤(plc L i).Rows
  r2:(plc L i).Row+(plc L i).Rows≤rows
theorem ls {p:ae} (h:okp p=true):p.Row≥0∧p.Col≥0∧p.Rows≥1∧p.Cols≥1:=by simpa [okp] using h
theorem qh_of {rows:Nat} {p:ae} (hr:rows≤10000) (h1:okp p=true) (h2:qh rows p=true):p.Row+p.Rows≤rows:=by
  have:=ls h1
  unfold qh at h2
  simp only [Bool.and_eq_true,decide_eq_true_eq] at h2
  rw [b9 (by omega) (by omega)] at h2; omega
theorem Vh.of {rows:Nat} {L:List ae} {H:List Int} (hr:rows≤10000) {i:Int} (h:i∈val L (qh rows) H.length):Vh rows L H i:=by
  obtain ⟨h1,h2,h3,h4,h5⟩:=qt h
  have:=ls h4
  exact ⟨h1,h2,h3,by omega,by omega,qh_of hr h4 h5⟩
theorem hstep_ok {rows:Nat} {L:List ae} {H:List Int} {i:Int} (hr:rows≤10000) (h:Vh rows L H i) {out:List Int} (ho:Ok 1048576 rows out) :
    Ok 1048576 rows (hstep L H out i)∧(∀ k,out.getD k default≤(hstep L H out i).getD k default)∧sz (H.getD i.toNat default)≤wsum (hstep L H out i) (plc L i).Row.toNat (plc L i).Rows.toNat:=by
  have r0:=h.r0; have r1:=h.r1; have r2:=h.r2
  have he:(plc L i).Row.toNat+(plc L i).Rows.toNat - 1<out.length:=by rw [ho.1]; omega
  have hw:=wsum_ge ho (a:=(plc L i).Row.toNat) (k:=(plc L i).Row.toNat+(plc L i).Rows.toNat - 1) (plc L i).Rows.toNat (by omega) (by omega) (by omega)
  have ha:=ho.at (k:=(plc L i).Row.toNat+(plc L i).Rows.toNat - 1) (by omega)
  have hz:=dn (H.getD i.toNat default)
  unfold hstep
  refine ⟨ho.set (by omega),fun k=>?_,?_⟩
  · by_cases e:k=(plc L i).Row.toNat+(plc L i).Rows.toNat - 1
    · subst e; rw [geq he]; omega
    · rw [gne (Ne.symm e)]; omega
  · rw [wsum_set he _ (by omega) (by omega)]; omega
theorem hfold_ok {rows:Nat} {L:List ae} {H:List Int} (hr:rows≤10000):∀ (d out:List Int),(∀ i∈d,Vh rows L H i)→Ok 1048576 rows out →
    Ok 1048576 rows (d.foldl (hstep L H) out)∧(∀ k,out.getD k default≤(d.foldl (hstep L H) out).getD k default)∧∀ i∈d,sz (H.getD i.toNat default)≤wsum (d.foldl (hstep L H) out) (plc L i).Row.toNat (plc L i).Rows.toNat
  | [],out,_,ho=>⟨ho,fun k=>Int.le_refl _,fun i hi=>by cases hi⟩
  | i::d,out,hd,ho=>by
    obtain ⟨h1,h2,h3⟩:=hstep_ok hr (hd i (by simp)) ho
    obtain ⟨k1,k2,k3⟩:=hfold_ok hr d _ (fun j hj=>hd j (by simp [hj])) h1
    refine ⟨k1,fun k=>Int.le_trans (h2 k) (k2 k),fun j hj=>?_⟩
    rcases List.mem_cons.1 hj with e | hj
    · subst e; exact Int.le_trans h3 (ql k2 _ _)
    · exact k3 j hj
theorem h_l2 {rows:Nat} {L:List ae} {H d:List Int} (hr:rows≤10000) (hn:10001<n) (hd:∀ i∈d,Vh rows L H i) (hl:d.length≤10000):∀ (m t:Nat) (out:List Int),t≤d.length→d.length<m+t→Ok 1048576 rows out →
    lI K n L H d m (t:Int) out=some ((d.drop t).foldl (hstep L H) out):=by
  intro m
  induction m with
  | zero=>intro t out h1 h2; omega
  | succ m ih =>
    intro t out h1 h2 ho
    simp only [lI,nO]
    by_cases ht:t<d.length
    · have hi:d.getD t default∈d:=by rw [bO ht]; exact List.getElem_mem _
      have hv:=hd _ hi
      have ed:d.drop t=d.getD t default::d.drop (t+1):=by rw [List.drop_eq_getElem_cons ht,bO ht]
      rw [iteT (by omega),aE (by omega)]
      simp only [tnat]
      rw [ed,List.foldl_cons]
      generalize d.getD t default=i at *
      have i0:=hv.i0; have iL:=hv.iL; have iH:=hv.iH; have r0:=hv.r0; have r1:=hv.r1; have r2:=hv.r2
      have hs:=hstep_ok hr hv ho
      have hb:=ho.at (k:=(plc L i).Row.toNat+(plc L i).Rows.toNat - 1) (by omega)
      have hw:=mK ho (a:=(plc L i).Row.toNat) (plc L i).Rows.toNat (by omega)
      have hz:=dn (H.getD i.toNat default)
      have hnext:=ih (t+1) (hstep L H out i) (by omega) (by omega) hs.1
      rw [aE (by omega),aE (by omega),jm,sb,sb,show List.getD L i.toNat default=plc L i from rfl]
      unfold hstep at hnext hs
      obtain ⟨r,er⟩:∃ r:Nat,(plc L i).Row=r:=⟨(plc L i).Row.toNat,by omega⟩
      obtain ⟨s,es⟩:∃ s:Nat,(plc L i).Rows=s:=⟨(plc L i).Rows.toNat,by omega⟩
      unfold hstep
      rw [er,es] at r2 hb hw hnext ⊢
      rw [es] at r1
      simp only [tnat] at hb hw hnext ⊢
      rw [wn (n:=(r:Int)+(s:Int)) (k:=r+s) (by omega) (by omega),Sh.gT (by omega) (by omega) (by rw [ho.1]; omega),bx]
      simp only [tnat,Int.toNat_zero,Nat.add_zero,Nat.add_sub_cancel_left]
      by_cases h1s:s=1
      · subst h1s
        rw [show (((1:Nat):Int) == 1)=true from rfl,if_pos rfl,aE (by omega),show decide (r<out.length)=true from decide_eq_true (by rw [ho.1]; omega),bx,aE (by omega)]
        unfold kX
        rw [show r+1 - 1=r by omega] at hnext hb ⊢
        simp only [wsum,Nat.add_zero,Int.zero_add] at hnext ⊢
        rw [show max (out.getD r default) (sz (H.getD i.toNat default))=out.getD r default+max (sz (H.getD i.toNat default) - out.getD r default) 0 by omega,wn (n:=(t:Int)+1) (k:=t+1) (by omega) (by omega)]
        exact hnext
      · have:((s:Int) == 1)=false:=by rw [beq_eq_false_iff_ne]; omega
        rw [this,if_neg (by decide),wn (n:=(s:Int) - 1) (k:=s - 1) (by omega) (by omega),aE (by omega),tnat,show decide (r+(s - 1)<out.length)=true from decide_eq_true (by rw [ho.1]; omega),bx]
        rw [qg (c:=1048576) (by omega) _ (by rw [List.length_take]; omega) (fun x hx=>ho.2 x (List.mem_of_mem_drop (List.mem_of_mem_take hx))) hn,sb,wsum_sm out r s (by rw [ho.1]; omega)]
        rw [show decide (r+s≤out.length)=true from decide_eq_true (by rw [ho.1]; omega),bx,aE (by omega)]
        unfold kX
        have hbb:(s:Int)*1048576≤10000*1048576:=Int.mul_le_mul_of_nonneg_right (by omega) (by omega)
        rw [show r+(s - 1)=r+s - 1 by omega,wn (n:=(t:Int)+1) (k:=t+1) (by omega) (by omega),b9 (n:=sz (H.getD i.toNat default) - wsum out r s) (by omega) (by omega),b9 (by omega) (by omega)]
        exact hnext
    · obtain rfl:t=d.length:=by omega
      rw [iteF (by omega),List.drop_length]; rfl
def heights (L:List ae) (H out:List Int):List Int:=(grp (fun i=>(plc L i).Rows) (val L (qh out.length) H.length) out.length).foldl (hstep L H) out
theorem Ok.rep (c:Int) (hc:0≤c) (rows:Nat):Ok c rows (List.replicate rows 0):=⟨by simp,fun x hx=>by have:=(List.mem_replicate.1 hx).2; omega⟩
theorem grp_len {key:Int→Int} {V:List Int} (hk:∀ v∈V,1≤key v) (N:Nat):(grp key V N).length≤V.length:=by
  rw [(re hk N).length_eq]; exact List.length_filter_le _ _
theorem heights_ok {lvl n:Nat} (L:List ae) (H:List Int) (rows:Int) (hr:rows≤10000) (hL:L.length≤10000) (hn:10001<n) (hlv:20020≤lvl):m8 (KN lvl) n L H rows=some (heights L H (List.replicate (max rows 0).toNat 0)):=by
  unfold m8
  obtain ⟨r,er⟩:∃ r:Nat,max rows 0=r:=⟨(max rows 0).toNat,by omega⟩
  rw [er,Sh.jD (by omega) (by omega),bx,sb,tnat]
  obtain ⟨k,rfl⟩:∃ k,lvl=k+1:=⟨lvl - 1,by omega⟩
  rw [sC (lvl:=k+1) (f:=Fv.c31 (r:Int)) (s:=Fv.fn 33) (q:=qh r) (sp:=fun p=>p.Rows) (fun p=>qh_ok (K:=KN k) (n:=k) (r:Int) p) (fun m p=>rfl) L H.length r hL hn hlv (fun p h1 h2=>by
    have:=ls h1; have:=qh_of (by omega) h1 h2; omega),sb]
  have hd:∀ i∈grp (fun i=>(plc L i).Rows) (val L (qh r) H.length) r,Vh r L H i:=fun i hi=>Vh.of (by omega) (mf hi).1
  have hlen:=grp_len (key:=fun i=>(plc L i).Rows) (V:=val L (qh r) H.length) (fun v hv=>(Vh.of (by omega) hv).r1) r
  have:=h_l2 (K:=KN (k+1)) (n:=n) (rows:=r) (by omega) hn hd (by have:=kN L (qh r) H.length; omega) n 0 _ (by omega) (by have:=kN L (qh r) H.length; omega) (Ok.rep 1048576 (by omega) r)
  unfold heights
  rw [List.length_replicate]
  exact this
end Go.Proofs.Ytolhpahjgddjkaa.Tb
namespace Go.Proofs.Ytolhpahjgddjkaa.Tb
set_option linter.all false
open Go.RowKit
open QSort (wn aE iteT iteF sb)
set_option maxRecDepth 20000
variable {K:Kn} {n:Nat}
abbrev Span:=V2 Int
def covp (r c:Int) (p:ae):Bool:=decide (p.Row≤r) && (decide (r<p.Row+p.Rows) && (decide (p.Col≤c) && decide (c<p.Col+p.Cols)))
def cov (A:List ae) (r c:Int):Bool:=A.any (covp r c)
theorem cov_app (A B:List ae) (r c:Int):cov (A++B) r c=(cov A r c || cov B r c):=List.any_append
def nf (f:Int→Bool):Nat→Int→Int
  | 0,c=>c
  | k+1,c=>if f c=true then nf f k (c+1) else c
def fuel (c:Int):Nat:=(100000 - c).toNat
theorem nf_ge (f:Int→Bool):∀ (k:Nat) (c:Int),c≤nf f k c
  | 0,c=>Int.le_refl _
  | k+1,c=>by
    simp only [nf]; split
    · have:=nf_ge f k (c+1); omega
    · omega
theorem nf_le {f:Int→Bool} {E:Int} (hE:∀ x,E≤x→f x=false):∀ (k:Nat) (c:Int),nf f k c≤max c E
  | 0,c=>by simp only [nf]; omega
  | k+1,c=>by
    simp only [nf]; split
    · rename_i h
      have:¬ E≤c:=fun h2=>by rw [hE c h2] at h; cases h
      have:=nf_le hE k (c+1); omega
    · omega
theorem nf_free {f:Int→Bool} {E:Int} (hE:∀ x,E≤x→f x=false):∀ (k:Nat) (c:Int),(E - c).toNat≤k→f (nf f k c)=false
  | 0,c,h=>hE c (by omega)
  | k+1,c,h=>by
    simp only [nf]; split
    · rename_i h2
      have:¬ E≤c:=fun h3=>by rw [hE c h3] at h2; cases h2
      exact nf_free hE k (c+1) (by omega)
    · rename_i h2; simpa using h2
def mkp (R r:Int) (c:Int) (s:Span):ae:=⟨r,c,min (max s.a0 1) (R - r),min (max s.a1 1) 100⟩
def cells (R r:Int) (f:Int→Bool):List Span→Int→List ae
  | [],_=>[]
  | s::t,col=>mkp R r (nf f (fuel col) col) s::cells R r f t (nf f (fuel col) col+min (max s.a1 1) 100)
def cmax (C:Int) (l:List ae):Int:=l.foldl (fun a p=>max a (p.Col+p.Cols)) C
theorem cmax_app (C:Int) (a b:List ae):cmax C (a++b)=cmax (cmax C a) b:=List.foldl_append
theorem cmax_ge:∀ (l:List ae) (C:Int),C≤cmax C l∧∀ p∈l,p.Col+p.Cols≤cmax C l
  | [],C=>⟨Int.le_refl _,fun p hp=>(by cases hp)⟩
  | q::l,C=>by
    have h:=cmax_ge l (max C (q.Col+q.Cols))
    refine ⟨by simp only [cmax,List.foldl_cons]; have:=h.1; unfold cmax at this; omega,fun p hp=>?_⟩
    rcases List.mem_cons.1 hp with e | hp
    · subst e; simp only [cmax,List.foldl_cons]; have:=h.1; unfold cmax at this; omega
    · exact h.2 p hp
structure Pl (R r:Int) (C:Int) (p:ae):Prop where
  row:p.Row=r
  rows:1≤p.Rows
  down:p.Row+p.Rows≤R
  col:0≤p.Col
  cols:1≤p.Cols∧p.Cols≤100
  right:p.Col+p.Cols≤C
theorem qj (R r:Int) (f:Int→Bool):∀ (l:List Span) (col:Int),(cells R r f l col).length=l.length
  | [],_=>rfl
  | s::t,col=>by simp only [cells,List.length_cons,qj R r f t]
theorem rX {R r:Int} {f:Int→Bool} (hr:r<R):∀ (l:List Span) (col C:Int),(∀ x,C≤x→f x=false)→0≤col→col≤C →
    (∀ p∈cells R r f l col,Pl R r (C+100*l.length) p∧col≤p.Col)∧cmax C (cells R r f l col)≤C+100*l.length
  | [],col,C,hf,h0,h1=>⟨fun p hp=>(by cases hp),(by simp [cmax,cells])⟩
  | s::t,col,C,hf,h0,h1=>by
    have g1:=nf_ge f (fuel col) col
    have g2:=nf_le hf (fuel col) col
    have hlen:(((s::t).length:Nat):Int)=t.length+1:=by simp
    have ih:=rX hr t (nf f (fuel col) col+min (max s.a1 1) 100) (C+100) (fun x hx=>hf x (by omega)) (by omega) (by omega)
    refine ⟨fun p hp=>?_,?_⟩
    · simp only [cells] at hp
      rcases List.mem_cons.1 hp with e | hp
      · subst e
        refine ⟨⟨rfl,?_,?_,?_,⟨?_,?_⟩,?_⟩,g1⟩<;>simp only [mkp]<;>omega
      · have:=(ih.1 p hp)
        refine ⟨⟨this.1.row,this.1.rows,this.1.down,this.1.col,this.1.cols,by have:=this.1.right; omega⟩,by have:=this.2; omega⟩
    · have e:∀ (l:List ae) (a b:Int),a≤b→cmax a l≤cmax b l:=by
        intro l
        induction l with
        | nil=>intro a b h; exact h
        | cons q l ih=>intro a b h; exact ih (max a (q.Col+q.Cols)) (max b (q.Col+q.Cols)) (by omega)
      have h3:=e (cells R r f t (nf f (fuel col) col+min (max s.a1 1) 100)) (max C ((mkp R r (nf f (fuel col) col) s).Col+(mkp R r (nf f (fuel col) col) s).Cols)) (C+100) (by show max C (nf f (fuel col) col+min (max s.a1 1) 100)≤C+100; omega)
      have h4:=ih.2
      have h5:cmax C (cells R r f (s::t) col)=cmax (max C ((mkp R r (nf f (fuel col) col) s).Col+(mkp R r (nf f (fuel col) col) s).Cols)) (cells R r f t (nf f (fuel col) col+min (max s.a1 1) 100)):=rfl
      omega
theorem tK {R r:Int} {f:Int→Bool} {E:Int} (hf:∀ x,E≤x→f x=false) (hE:E≤100000):∀ (l:List Span) (col:Int),0≤col →
    ∀ i,i<l.length→f ((cells R r f l col).getD i default).Col=false∧(0<i→((cells R r f l col).getD (i - 1) default).Col+((cells R r f l col).getD (i - 1) default).Cols≤((cells R r f l col).getD i default).Col)
  | [],col,_,i,h=>by simp at h
  | s::t,col,h0,0,h=>by
    refine ⟨?_,fun h=>by omega⟩
    show f (nf f (fuel col) col)=false
    exact nf_free hf _ _ (by unfold fuel; omega)
  | s::t,col,h0,i+1,h=>by
    have g1:=nf_ge f (fuel col) col
    have ih:=tK (R:=R) (r:=r) hf hE t (nf f (fuel col) col+min (max s.a1 1) 100) (by omega) i (by simpa using h)
    refine ⟨ih.1,fun _=>?_⟩
    match i with
    | 0 =>
      have ht:0<t.length:=by simpa using h
      match t,ht with
      | s2::t2,_ =>
        show nf f (fuel col) col+min (max s.a1 1) 100≤nf f (fuel (nf f (fuel col) col+min (max s.a1 1) 100)) (nf f (fuel col) col+min (max s.a1 1) 100)
        exact nf_ge _ _ _
    | j+1=>exact ih.2 (by omega)
def rw (S:List (List Span)):Nat→List (List ae)
  | 0=>[]
  | k+1=>rw S k++[cells S.length k (cov (rw S k).flatten k) (S.getD k default) 0]
def abv (S:List (List Span)) (k:Nat):List ae:=(rw S k).flatten
def col (S:List (List Span)) (k:Nat):Int:=cmax 0 (abv S k)
def rowc (S:List (List Span)) (k:Nat):List ae:=cells S.length k (cov (abv S k) k) (S.getD k default) 0
theorem qu (S:List (List Span)) (k:Nat):rw S (k+1)=rw S k++[rowc S k]:=rfl
theorem fL (S:List (List Span)):∀ k,(rw S k).length=k
  | 0=>rfl
  | k+1=>by rw [qu,List.length_append,fL S k]; rfl
theorem fS (S:List (List Span)) (k:Nat):abv S (k+1)=abv S k++rowc S k:=by unfold abv; rw [qu]; simp
theorem qW (S:List (List Span)) (k:Nat):col S (k+1)=cmax (col S k) (rowc S k):=by unfold col; rw [fS,cmax_app]
theorem rw_at (S:List (List Span)) {k:Nat}:∀ {m:Nat},k<m→(rw S m).getD k default=rowc S k
  | 0,h=>by omega
  | m+1,h=>by
    rw [qu,List.getD_eq_getElem?_getD]
    by_cases e:k=m
    · subst e; rw [List.getElem?_append_right (by rw [fL]; exact Nat.le_refl _),fL,Nat.sub_self]; rfl
    · rw [List.getElem?_append_left (by rw [fL]; omega),← List.getD_eq_getElem?_getD]; exact rw_at S (by omega)
structure Sp (S:List (List Span)):Prop where
  r:S.length≤20
  c:∀ row∈S,row.length≤20
theorem Sp.at {S:List (List Span)} (h:Sp S) {k:Nat} (hk:k<S.length):(S.getD k default).length≤20:=h.c _ (by rw [bO hk]; exact List.getElem_mem _)
structure Up (S:List (List Span)) (k:Nat):Prop where
  p:∀ p∈abv S k,0≤p.Row∧p.Row<k∧1≤p.Rows∧p.Row+p.Rows≤S.length∧0≤p.Col∧1≤p.Cols∧p.Cols≤100∧p.Col+p.Cols≤col S k
  c:0≤col S k∧col S k≤2000*k
  l:(abv S k).length≤20*k
theorem Up.free {S:List (List Span)} {k:Nat} (h:Up S k) (r:Int):∀ x,col S k≤x→cov (abv S k) r x=false:=by
  intro x hx
  unfold cov
  rw [List.any_eq_false]
  intro p hp
  have:=h.p p hp
  unfold covp
  rw [show decide (x<p.Col+p.Cols)=false from decide_eq_false (by omega)]; simp
theorem lD {S:List (List Span)} (hS:Sp S) {k:Nat} (hk:k<S.length) (h:Up S k):(∀ p∈rowc S k,Pl S.length k (col S k+2000) p)∧col S (k+1)≤col S k+2000:=by
  have hl:=hS.at hk
  have:=rX (R:=S.length) (r:=k) (f:=cov (abv S k) k) (by omega) (S.getD k default) 0 (col S k) (h.free k) (by omega) h.c.1
  refine ⟨fun p hp=>?_,?_⟩
  · obtain ⟨h1,h2⟩:=this.1 p hp
    exact ⟨h1.row,h1.rows,h1.down,h1.col,h1.cols,by have:=h1.right; omega⟩
  · rw [qW]; have:=this.2; unfold rowc; omega
theorem up {S:List (List Span)} (hS:Sp S):∀ k,k≤S.length→Up S k
  | 0,_=>⟨fun p hp=>(by simp [abv,rw] at hp),by simp [col,abv,rw,cmax],by simp [abv,rw]⟩
  | k+1,hk=>by
    have h:=up hS k (by omega)
    have hl:=hS.at (show k<S.length by omega)
    obtain ⟨r1,r2⟩:=lD hS (show k<S.length by omega) h
    have g:=cmax_ge (rowc S k) (col S k)
    rw [←qW] at g
    refine ⟨fun p hp=>?_,by have:=h.c; omega,?_⟩
    · rw [fS] at hp
      rcases List.mem_append.1 hp with hp | hp
      · have:=h.p p hp; omega
      · have h1:=r1 p hp; have h2:=g.2 p hp
        have:=h1.row; have:=h1.rows; have:=h1.down; have:=h1.col; have:=h1.cols
        omega
    · rw [fS,List.length_append]
      have:=h.l
      have:(rowc S k).length=(S.getD k default).length:=qj _ _ _ _ _
      omega
end Go.Proofs.Ytolhpahjgddjkaa.Tb
namespace Go.Proofs.Ytolhpahjgddjkaa.Tb
set_option linter.all false
open Go.RowKit
open QSort (wn aE iteT iteF sb)
set_option maxRecDepth 20000
variable {K:Kn} {n:Nat}
theorem mfind_put (k x:Int):∀ l:List (Int×Bool),mfind x (mputL k true l)=if x=k then some true else mfind x l
  | []=>by
    simp only [mputL,mfind]
    by_cases h:k=x
    · rw [decide_eq_true h,if_pos h.symm]
    · rw [decide_eq_false h,if_neg (Ne.symm h)]
  | p::l=>by
    simp only [mputL]
    by_cases h:p.1=k
    · rw [decide_eq_true h]
      simp only [mfind]
      by_cases h2:k=x
      · rw [decide_eq_true h2,if_pos h2.symm]
      · rw [decide_eq_false h2,if_neg (Ne.symm h2),decide_eq_false (by omega)]
    · rw [decide_eq_false h]
      simp only [mfind]
      by_cases h2:p.1=x
      · rw [decide_eq_true h2,if_neg (by omega)]
      · rw [decide_eq_false h2]; exact mfind_put k x l
theorem mget_put {m:TMp} (h:m.isSome=true) (k x:Int):mget (mput m k true) x=(mget m x || decide (x=k)):=by
  cases m with
  | none=>cases h
  | some l =>
    simp only [mput,mget,mfind_put]
    by_cases e:x=k
    · rw [if_pos e,decide_eq_true e,Bool.or_true]
    · rw [if_neg e,decide_eq_false e,Bool.or_false]
def cg (cv:List TMp) (k:Nat) (x:Int):Bool:=mget (cv.getD k none) x
theorem cg_set {cv:List TMp} {k k':Nat} {m:TMp} (hk:k'<cv.length) (x:Int):cg (cv.set k m) k' x=if k'=k then mget m x else cg cv k' x:=by
  unfold cg
  by_cases h:k'=k
  · subst h; rw [if_pos rfl]; simp [List.getD_eq_getElem?_getD,hk]
  · rw [if_neg h]; simp [List.getD_eq_getElem?_getD,List.getElem?_set,Ne.symm h]
theorem p_l1 {S:List (List Span)} (hS:Sp S) {r:Nat} (hr:r<S.length) (out:List (List ae)) (cv:List TMp) (hcv:cv.length=S.length) (C L idx:Int) (list:List ae) (hl:list.length≤1000) (s:Span) (hidx:w64 (idx+1)=idx+1) (hC:0≤C∧C≤200000)
    (L1:Int→Int→List (List ae)→List TMp→Option ((List (List ae))×Int)) (L2:Int→Int→Int→Int→List ae→Option ((List (List ae))×Int))
    (hf:∀ x,100000≤x→cg cv r x=false):∀ (k:Nat) (c:Int) (m:Nat),fuel c=k→k<m→0≤c→c≤100000 →
    im K n S (r:Int) out cv C L idx list L1 L2 m c s=L2 (max C (nf (cg cv r) (fuel c) c+min (max s.a1 1) 100)) (nf (cg cv r) (fuel c) c+min (max s.a1 1) 100) L (idx+1) (list++[mkp S.length r (nf (cg cv r) (fuel c) c) s]):=by
  have hR:=hS.r
  have fin:∀ (c:Int) (m:Nat),0≤c→c≤100000→0<m→cg cv r c=false→im K n S (r:Int) out cv C L idx list L1 L2 m c s=L2 (max C (c+min (max s.a1 1) 100)) (c+min (max s.a1 1) 100) L (idx+1) (list++[mkp S.length r c s]):=by
    intro c m h0 h1 hm hc
    obtain ⟨m,rfl⟩:∃ j,m=j+1:=⟨m - 1,by omega⟩
    simp only [im,mJ,tnat]
    unfold cg at hc
    rw [aE (by omega),hc,sb,if_neg (by decide),sb,cP (by simp; omega) (by omega),bx,b9 (n:=(S.length:Int) - (r:Int)) (by omega) (by omega),b9 (by omega) (by omega),hidx]
    rfl
  intro k
  induction k with
  | zero =>
    intro c m hk hm h0 h1
    have hc:100000≤c:=by unfold fuel at hk; omega
    rw [hk]; simp only [nf]
    exact fin c m h0 h1 hm (hf c hc)
  | succ k ih =>
    intro c m hk hm h0 h1
    rw [hk]; simp only [nf]
    cases hc:cg cv r c
    · rw [if_neg (by decide)]
      exact fin c m h0 h1 (by omega) hc
    · rw [if_pos rfl]
      obtain ⟨m,rfl⟩:∃ j,m=j+1:=⟨m - 1,by omega⟩
      have hlt:c<100000:=by unfold fuel at hk; omega
      simp only [im,mJ,tnat]
      have hc':=hc
      unfold cg at hc'
      rw [aE (by omega),hc',sb,if_pos rfl,b9 (by omega) (by omega)]
      have:=ih (c+1) m (by unfold fuel at hk ⊢; omega) (by omega) (by omega) (by omega)
      rw [show fuel (c+1)=k by unfold fuel at hk ⊢; omega] at this
      exact this
theorem p_l2 {S:List (List Span)} (hS:Sp S) {r:Nat} (hr:r<S.length) (hn:200000<n) (out:List (List ae)) (cv:List TMp) (hcv:cv.length=S.length) {E:Int} (hE:0≤E∧E≤50000) (hf:∀ x,E≤x→cg cv r x=false)
    (L1:Int→Int→List (List ae)→List TMp→Option ((List (List ae))×Int)):∀ (m i:Nat) (C col:Int) (list:List ae),i≤(S.getD r default).length→(S.getD r default).length<m+i→0≤col→max col E+100*(((S.getD r default).length - i:Nat):Int)≤90000→0≤C∧C+100*(((S.getD r default).length - i:Nat):Int)≤100000→col≤90000→list.length≤i →
    jq K n S (r:Int) out cv L1 m C col ((S.getD r default).length:Int) (i:Int) list=ig K n S (r:Int) out (cmax C (cells S.length r (cg cv r) ((S.getD r default).drop i) col)) (list++cells S.length r (cg cv r) ((S.getD r default).drop i) col) L1 n 0 cv:=by
  have hR:=hS.r; have hrow:=hS.at hr
  intro m
  induction m with
  | zero=>intro i C col list h1 h2; omega
  | succ m ih =>
    intro i C col list h1 h2 h3 h4 h5 h6 h7
    simp only [jq,nC,tnat]
    by_cases hi:i<(S.getD r default).length
    · rw [iteT (by omega),aE (by omega)]
      have e:=p_l1 (K:=K) (n:=n) hS hr out cv hcv C ((S.getD r default).length:Int) (i:Int) list (by omega) ((S.getD r default).getD i default) (b9 (by omega) (by omega)) (by omega) L1 (jq K n S (r:Int) out cv L1 m) (fun x hx=>hf x (by omega)) (fuel col) col n rfl (by unfold fuel; omega) h3 (by omega)
      have g1:=nf_ge (cg cv r) (fuel col) col
      have g2:=nf_le hf (fuel col) col
      rw [e,List.drop_eq_getElem_cons hi,← bO hi]
      generalize hs:(S.getD r default).getD i default=s at *
      have hst:(((S.getD r default).length - i:Nat):Int)=(((S.getD r default).length - (i+1):Nat):Int)+1:=by omega
      have:=ih (i+1) (max C (nf (cg cv r) (fuel col) col+min (max s.a1 1) 100)) (nf (cg cv r) (fuel col) col+min (max s.a1 1) 100) (list++[mkp S.length r (nf (cg cv r) (fuel col) col) s]) (by omega) (by omega) (by omega) (by omega) (by omega) (by omega) (by simp; omega)
      rw [show (i:Int)+1=((i+1:Nat):Int) by omega,this]
      simp only [cells,List.append_assoc,List.singleton_append]
      rfl
    · obtain rfl:i=(S.getD r default).length:=by omega
      rw [iteF (by omega),List.drop_length]
      simp [cells,cmax]
section
variable {S:List (List Span)} {r:Nat} (out:List (List ae)) (C:Int) (l:List ae)
theorem p_l4 {j:Int} {p:ae} (hp:l.getD j.toNat default=p) (hc:0≤p.Col∧1≤p.Cols∧p.Cols≤100∧p.Col≤200000) {k:Nat} (hk20:k≤1000)
    (L1:Int→Int→List (List ae)→List TMp→Option ((List (List ae))×Int)) (L4 L5:Int→List TMp→Option ((List (List ae))×Int)):∀ (m t:Nat) (cv:List TMp),t≤p.Cols.toNat→p.Cols.toNat<m+t→k<cv.length→(cv.getD k none).isSome=true →
    ∃ cv',kn K n S (r:Int) out C l j (k:Int) L1 L4 L5 m (p.Col+t) cv=L5 ((k+1:Nat):Int) cv'∧cv'.length=cv.length∧∀ k' x,k'<cv.length→cg cv' k' x=(cg cv k' x || (decide (k'=k) && (decide (p.Col+t≤x) && decide (x<p.Col+p.Cols)))):=by
  intro m
  induction m with
  | zero=>intro t cv h1 h2; omega
  | succ m ih =>
    intro t cv h1 h2 hk hs
    simp only [kn,oF,hp,tnat]
    rw [b9 (n:=p.Col+p.Cols) (by omega) (by omega)]
    by_cases ht:t<p.Cols.toNat
    · rw [show decide (p.Col+(t:Int)<p.Col+p.Cols)=true from decide_eq_true (by omega),sb,if_pos rfl,aE (by omega),hs,bx,b9 (n:=p.Col+(t:Int)+1) (by omega) (by omega)]
      obtain ⟨cv',e1,e2,e3⟩:=ih (t+1) (List.set cv k (mput (cv.getD k none) (p.Col+t) true)) (by omega) (by omega) (by simpa using hk) (by
        rw [show (List.set cv k (mput (cv.getD k none) (p.Col+t) true)).getD k none=mput (cv.getD k none) (p.Col+t) true by simp [List.getD_eq_getElem?_getD,hk]]
        cases h:cv.getD k none with
        | none=>rw [h] at hs; cases hs
        | some l=>rfl)
      refine ⟨cv',?_,by simpa using e2,fun k' x hk'=>?_⟩
      · rw [show p.Col+(t:Int)+1=p.Col+((t+1:Nat):Int) by omega]; exact e1
      · rw [e3 k' x (by simpa using hk'),cg_set hk']
        by_cases h:k'=k
        · subst h
          rw [if_pos rfl,mget_put hs,decide_eq_true rfl,Bool.true_and,Bool.true_and]
          unfold cg
          cases mget (cv.getD k' none) x
          · rw [Bool.false_or,Bool.false_or]
            by_cases h3:x=p.Col+t
            · rw [decide_eq_true h3,Bool.true_or,decide_eq_true (show p.Col+(t:Int)≤x by omega),decide_eq_true (show x<p.Col+p.Cols by omega)]; rfl
            · rw [decide_eq_false h3,Bool.false_or]
              congr 1
              by_cases h4:p.Col+(t:Int)≤x
              · rw [decide_eq_true h4,decide_eq_true (by omega)]
              · rw [decide_eq_false h4,decide_eq_false (by omega)]
          · rfl
        · rw [if_neg h,decide_eq_false h,Bool.false_and,Bool.false_and]
    · obtain rfl:t=p.Cols.toNat:=by omega
      rw [show decide (p.Col+((p.Cols.toNat:Nat):Int)<p.Col+p.Cols)=false from decide_eq_false (by omega),sb,if_neg (by decide),wn (n:=(k:Int)+1) (k:=k+1) (by omega) (by omega)]
      refine ⟨cv,rfl,rfl,fun k' x hk'=>?_⟩
      have:(decide (p.Col+((p.Cols.toNat:Nat):Int)≤x) && decide (x<p.Col+p.Cols))=false:=by
        by_cases h:x<p.Col+p.Cols
        · rw [decide_eq_false (show ¬ p.Col+((p.Cols.toNat:Nat):Int)≤x by omega),Bool.false_and]
        · rw [decide_eq_false h,Bool.and_false]
      rw [this,Bool.and_false,Bool.or_false]
theorem p_l5 {j:Int} {p:ae} {Cm:Int} (hCm:Cm≤200000) (hp:l.getD j.toNat default=p) (hpl:Pl S.length r Cm p) (hR:S.length≤20) (hn:200000<n) (hj:w64 (j+1)=j+1)
    (L1:Int→Int→List (List ae)→List TMp→Option ((List (List ae))×Int)) (L4:Int→List TMp→Option ((List (List ae))×Int)):∀ (m k:Nat) (cv:List TMp),r<k→k≤r+p.Rows.toNat→r+p.Rows.toNat<m+k→cv.length=S.length →
    ∃ cv',ii K n S (r:Int) out C l j L1 L4 m (k:Int) cv=L4 (j+1) cv'∧cv'.length=cv.length∧∀ k' x,k'<cv.length→r<k'→cg cv' k' x=(cg cv k' x || (decide (k≤k') && covp k' x p)):=by
  have p1:=hpl.row; have p2:=hpl.rows; have p3:=hpl.down; have p4:=hpl.col; have p5:=hpl.cols; have p6:=hpl.right
  intro m
  induction m with
  | zero=>intro k cv h1 h2; omega
  | succ m ih =>
    intro k cv h1 h2 h3 hl
    simp only [ii,pq,hp,tnat]
    rw [b9 (n:=(r:Int)+p.Rows) (by omega) (by omega)]
    by_cases hk:k<r+p.Rows.toNat
    · rw [show decide ((k:Int)<(r:Int)+p.Rows)=true from decide_eq_true (by omega),sb,if_pos rfl,aE (by omega),sb]
      have step:∀ cv1:List TMp,cv1.length=cv.length→(cv1.getD k none).isSome=true→(∀ k' x,k'<cv.length→cg cv1 k' x=cg cv k' x) →
          ∃ cv',mI K n S (r:Int) out C l j (k:Int) L1 L4 (ii K n S (r:Int) out C l j L1 L4 m) cv1=L4 (j+1) cv'∧cv'.length=cv.length∧∀ k' x,k'<cv.length→r<k'→cg cv' k' x=(cg cv k' x || (decide (k≤k') && covp k' x p)):=by
        intro cv1 l1 s1 g1
        obtain ⟨cv2,a1,a2,a3⟩:=p_l4 (K:=K) (n:=n) (S:=S) (r:=r) out C l hp (by omega) (k:=k) (by omega) L1 L4 (ii K n S (r:Int) out C l j L1 L4 m) n 0 cv1 (by omega) (by omega) (by omega) s1
        obtain ⟨cv3,b1,b2,b3⟩:=ih (k+1) cv2 (by omega) (by omega) (by omega) (by omega)
        refine ⟨cv3,?_,by omega,fun k' x hk' hr'=>?_⟩
        · unfold mI
          rw [hp]
          rw [show p.Col+((0:Nat):Int)=p.Col by omega] at a1
          rw [a1,b1]
        · rw [b3 k' x (by omega) hr',a3 k' x (by omega),g1 k' x hk',Bool.or_assoc]
          congr 1
          unfold covp
          rw [p1,decide_eq_true (show (r:Int)≤(k':Int) by omega),Bool.true_and,show p.Col+((0:Nat):Int)=p.Col by omega]
          by_cases h5:k'=k
          · subst h5
            rw [decide_eq_true rfl,decide_eq_false (show ¬ k'+1≤k' by omega),decide_eq_true (Nat.le_refl _),decide_eq_true (show (k':Int)<(r:Int)+p.Rows by omega)]
            simp only [Bool.true_and,Bool.false_and,Bool.or_false]
          · rw [decide_eq_false h5,Bool.false_and,Bool.false_or]
            congr 1
            by_cases h6:k≤k'
            · rw [decide_eq_true h6,decide_eq_true (by omega)]
            · rw [decide_eq_false h6,decide_eq_false (by omega)]
      cases hs:cv.getD k none with
      | none =>
        rw [show Option.isNone (none:TMp)=true from rfl,if_pos rfl,aE (by omega)]
        refine step _ (by simp) (by simp [List.getD_eq_getElem?_getD,show k<cv.length by omega]) (fun k' x hk'=>?_)
        rw [cg_set hk']
        split
        · rename_i e; subst e; unfold cg; rw [hs]; rfl
        · rfl
      | some q =>
        rw [show Option.isNone (some q:TMp)=false from rfl,if_neg (by decide)]
        exact step cv rfl (by rw [hs]; rfl) (fun k' x hk'=>rfl)
    · obtain rfl:k=r+p.Rows.toNat:=by omega
      rw [show decide (((r+p.Rows.toNat:Nat):Int)<(r:Int)+p.Rows)=false from decide_eq_false (by omega),sb,if_neg (by decide),hj]
      refine ⟨cv,rfl,rfl,fun k' x hk' hr'=>?_⟩
      have:(decide (r+p.Rows.toNat≤k') && covp k' x p)=false:=by
        by_cases h:r+p.Rows.toNat≤k'
        · unfold covp
          rw [p1,decide_eq_false (show ¬ (k':Int)<(r:Int)+p.Rows by omega)]; simp
        · rw [decide_eq_false h,Bool.false_and]
      rw [this,Bool.or_false]
theorem p_l6 {Cm:Int} (hCm:Cm≤200000) (hpl:∀ p∈l,Pl S.length r Cm p) (hR:S.length≤20) (hl:l.length≤1000) (ho:out.length≤1000) (hr:r≤1000) (hn:200000<n)
    (L1:Int→Int→List (List ae)→List TMp→Option ((List (List ae))×Int)):∀ (m j:Nat) (cv:List TMp),j≤l.length→l.length<m+j→cv.length=S.length →
    ∃ cv',ig K n S (r:Int) out C l L1 m (j:Int) cv=L1 C ((r+1:Nat):Int) (out++[l]) cv'∧cv'.length=cv.length∧∀ k' x,k'<cv.length→r<k'→cg cv' k' x=(cg cv k' x || cov (l.drop j) k' x):=by
  intro m
  induction m with
  | zero=>intro j cv h1 h2; omega
  | succ m ih =>
    intro j cv h1 h2 hc
    simp only [ig,ou]
    by_cases hj:j<l.length
    · have hp:=hpl (l.getD j default) (by rw [bO hj]; exact List.getElem_mem _)
      have p2:=hp.rows; have p3:=hp.down; have p1:=hp.row
      obtain ⟨cv1,a1,a2,a3⟩:=p_l5 (K:=K) (n:=n) (S:=S) (r:=r) out C l (j:=(j:Int)) (p:=l.getD j default) hCm (by rw [tnat]) hp hR hn (b9 (by omega) (by omega)) L1 (ig K n S (r:Int) out C l L1 m) n (r+1) cv (by omega) (by omega) (by omega) hc
      obtain ⟨cv2,b1,b2,b3⟩:=ih (j+1) cv1 (by omega) (by omega) (by omega)
      refine ⟨cv2,?_,by omega,fun k' x hk' hr'=>?_⟩
      · rw [iteT (by omega),aE (by omega),wn (n:=(r:Int)+1) (k:=r+1) (by omega) (by omega),a1,show (j:Int)+1=((j+1:Nat):Int) by omega,b1]
      · rw [b3 k' x (by omega) hr',a3 k' x hk' hr',List.drop_eq_getElem_cons hj,← bO hj,Bool.or_assoc]
        congr 1
        unfold cov
        rw [List.any_cons,decide_eq_true (show r+1≤k' by omega),Bool.true_and]
    · obtain rfl:j=l.length:=by omega
      rw [iteF (by omega),cP (by simp; omega) (by omega),bx,wn (n:=(r:Int)+1) (k:=r+1) (by omega) (by omega)]
      refine ⟨cv,rfl,rfl,fun k' x hk' hr'=>?_⟩
      rw [List.drop_length]; simp [cov]
end
theorem cells_congr {R r:Int} {f g:Int→Bool} (h:∀ x,f x=g x) (l:List Span) (col:Int):cells R r f l col=cells R r g l col:=by
  have:f=g:=funext h
  rw [this]
theorem places_ok {S:List (List Span)} (hS:Sp S) (hn:200000<n):jn K n S=some (rw S S.length,col S S.length):=by
  have hR:=hS.r
  have loop:∀ (m r:Nat) (cv:List TMp),r≤S.length→S.length<m+r→cv.length=S.length→(∀ k x,k<S.length→r≤k→cg cv k x=cov (abv S r) k x)→iv K n S m (col S r) (r:Int) (rw S r) cv=some (rw S S.length,col S S.length):=by
    intro m
    induction m with
    | zero=>intro r cv h1 h2; omega
    | succ m ih =>
      intro r cv h1 h2 hl hc
      simp only [iv,ov]
      by_cases hr:r<S.length
      · have hu:=up hS r (by omega)
        have hcr:∀ x,cg cv r x=cov (abv S r) r x:=fun x=>hc r x hr (Nat.le_refl _)
        have hro:=hS.at hr
        obtain ⟨q1,q2⟩:=lD hS hr hu
        have c0:=hu.c
        have e:=p_l2 (K:=K) (n:=n) hS hr hn (rw S r) cv hl (E:=col S r) (by omega) (fun x hx=>by rw [hcr]; exact hu.free r x hx) (iv K n S m) n 0 (col S r) 0 [] (by omega) (by omega) (by omega) (by omega) (by omega) (by omega) (by simp)
        rw [List.drop_zero,List.nil_append,cells_congr hcr,show cells S.length r (cov (abv S r) r) (S.getD r default) 0=rowc S r from rfl,← qW] at e
        have rl:(rowc S r).length=(S.getD r default).length:=qj _ _ _ _ _
        obtain ⟨cv1,a1,a2,a3⟩:=p_l6 (K:=K) (n:=n) (S:=S) (r:=r) (rw S r) (col S (r+1)) (rowc S r) (Cm:=col S r+2000) (by omega) q1 hR (by omega) (by rw [fL]; omega) (by omega) hn (iv K n S m) n 0 cv (by omega) (by omega) hl
        rw [iteT (by omega),aE (by omega),tnat]
        rw [show ((0:Nat):Int)=0 from rfl] at e a1
        rw [e,a1,← qu]
        refine ih (r+1) cv1 (by omega) (by omega) (by omega) (fun k x hk hk2=>?_)
        rw [a3 k x (by omega) (by omega),hc k x hk (by omega),List.drop_zero,fS,cov_app]
      · obtain rfl:r=S.length:=by omega
        rw [iteF (by omega)]
  unfold jn
  rw [Sh.jD (by omega) (by omega),bx,sb,tnat]
  exact loop n 0 _ (by omega) (by omega) (by simp) (fun k x hk _=>by simp [cg,abv,rw,cov,List.getD_eq_getElem?_getD,hk,mget])
end Go.Proofs.Ytolhpahjgddjkaa.Tb
namespace Go.Proofs.Ytolhpahjgddjkaa.Tb
set_option linter.all false
open Go.RowKit
open Sh (idx fh gq jw iP cK d6 share wts lim mx eb)
open QSort (wn aE iteT iteF sb R)
set_option maxRecDepth 20000
variable {K:Kn} {n:Nat}
def win {α:Type} [Inhabited α] (l:List α) (c s:Nat):List α:=tab s fun k=>l.getD (c+k) default
theorem cz {α:Type} [Inhabited α] (l:List α) (c s:Nat):(win l c s).length=s:=cJ _ _
theorem ij {α:Type} [Inhabited α] {l:List α} {c s k:Nat} (h:k<s):(win l c s).getD k default=l.getD (c+k) default:=eu h
theorem win_sm (l:List Int) (c:Nat):∀ s,sm (win l c s)=wsum l c s
  | 0=>rfl
  | s+1=>by unfold win at *; rw [l8,ff]; have:=win_sm l c s; unfold win at this; rw [this]; simp [sm,wsum]
def pw {α:Type} [Inhabited α] (l:List α) (c:Nat) (N:List α):List α:=tab l.length fun k=>if c≤k∧k<c+N.length then N.getD (k - c) default else l.getD k default
section
variable {α:Type} [Inhabited α]
theorem dq (l:List α) (c:Nat) (N:List α):(pw l c N).length=l.length:=cJ _ _
theorem cC {l:List α} {c k:Nat} {N:List α} (hk:k<l.length):(pw l c N).getD k default=if c≤k∧k<c+N.length then N.getD (k - c) default else l.getD k default:=eu hk
theorem pw_zero (l:List α) (c:Nat) (N:List α):pw l c (N.take 0)=l:=by
  refine gE (dq _ _ _) (fun k hk=>?_)
  rw [cC hk,if_neg (by rw [List.length_take]; omega)]
theorem set_at {l:List α} {e k:Nat} {x:α} (hk:k<l.length):(l.set e x).getD k default=if k=e then x else l.getD k default:=by
  by_cases h:k=e
  · subst h; rw [if_pos rfl]; simp [List.getD_eq_getElem?_getD,hk]
  · rw [if_neg h]; simp [List.getD_eq_getElem?_getD,List.getElem?_set,Ne.symm h]
theorem take_at {N:List α} {t k:Nat} (h:k<t):(N.take t).getD k default=N.getD k default:=by
  rw [List.getD_eq_getElem?_getD,List.getElem?_take_of_lt h,List.getD_eq_getElem?_getD]
theorem pw_set {l:List α} {c t:Nat} {N:List α} (ht:t<N.length) (hc:c+N.length≤l.length):List.set (pw l c (N.take t)) (c+t) (N.getD t default)=pw l c (N.take (t+1)):=by
  refine gE (by simp [dq]) (fun k hk=>?_)
  rw [dq] at hk
  rw [set_at (by rw [dq]; exact hk),cC hk,cC hk,List.length_take,List.length_take]
  by_cases h:k=c+t
  · subst h; rw [if_pos rfl,if_pos (by omega),Nat.add_sub_cancel_left,take_at (by omega)]
  · rw [if_neg h]
    by_cases h2:c≤k∧k<c+t
    · rw [if_pos (by omega),if_pos (by omega),take_at (by omega),take_at (by omega)]
    · rw [if_neg (by omega),if_neg (by omega)]
end
def nwin (l w:List Int) (d:Int):List Int:=if d - sm l>0 then adds l (share (d - sm l) (eqw w)) else l
def Bd (l:List Int):Prop:=∀ x∈l,0≤x∧x≤1048576
theorem Bd.at {l:List Int} (h:Bd l) {k:Nat} (hk:k<l.length):0≤l.getD k default∧l.getD k default≤1048576:=by rw [bO hk]; exact h _ (List.getElem_mem _)
theorem Bd.wts {l:List Int} (h:Bd l):∀ w∈l,0≤w∧w≤2147483647:=fun w hw=>by have:=h w hw; omega
theorem Bd.mk {l:List Int} (h:∀ k,k<l.length→0≤l.getD k default∧l.getD k default≤1048576):Bd l:=by
  intro x hx
  obtain ⟨k,hk,rfl⟩:=List.mem_iff_getElem.1 hx
  have:=h k hk
  rwa [bO hk] at this
theorem qZ (l w:List Int) (d:Int):(nwin l w d).length=l.length:=by unfold nwin; split; exact dH _ _; rfl
theorem sm_tab (A P:List Int):∀ i,i≤A.length→i≤P.length→sm (tab i fun k=>A.getD k default+P.getD k default)=sm (A.take i)+sm (P.take i):=by
  intro i
  induction i with
  | zero=>intro _ _; rfl
  | succ i ih =>
    intro h1 h2
    rw [l8,ff,ih (by omega) (by omega),Sh.gV (by omega),Sh.gV (by omega)]; simp [sm]; omega
theorem qY {A P:List Int} (h:A.length=P.length):sm (adds A P)=sm A+sm P:=by
  unfold adds; rw [sm_tab A P A.length (by omega) (by omega),List.take_length,h,List.take_length]
theorem sm_ones:∀ k:Nat,sm (List.replicate k 1)=k
  | 0=>rfl
  | k+1=>by simp only [List.replicate_succ,sm,sm_ones k]; omega
theorem eqw_sm {W:List Int} (hW:∀ w∈W,0≤w) (h:W≠[]):sm (eqw W)≠0:=by
  unfold eqw
  split
  · rename_i hp
    obtain ⟨x,hx,h2⟩:=List.any_eq_true.1 hp
    have h3:=Sh.jF W hW x hx
    have:x>0:=by simpa using h2
    omega
  · rw [sm_ones]
    have:=List.length_pos_iff.2 h
    omega
theorem nwin_ok {l w:List Int} {d:Int} (hl:Bd l) (hw:Bd w) (he:l.length=w.length) (h0:0<l.length) (h1:l.length≤10000) (hd:d≤1048576) :
    (∀ k,k<l.length→l.getD k default≤(nwin l w d).getD k default)∧d≤sm (nwin l w d)∧Bd (nwin l w d):=by
  unfold nwin
  have s0:=cK l (fun x hx=>(hl x hx).1)
  by_cases h:d - sm l>0
  · rw [if_pos h]
    have hp:∀ k,k<l.length→0≤(share (d - sm l) (eqw w)).getD k default:=fun k hk=>(gX (T:=d - sm l) ⟨by omega,by omega⟩ (fun x hx=>(gb hw.wts x hx).1) k (by rw [dZ]; omega)).1
    have hs:sm (adds l (share (d - sm l) (eqw w)))=d:=by
      rw [qY (by rw [eb,dZ]; exact he),Sh.oD (fun x hx=>(gb hw.wts x hx).1) (eqw_sm (fun x hx=>(hw x hx).1) (fun e=>by rw [e] at he; simp at he; rw [he] at h0; simp at h0)) (by rw [dZ]; omega)]
      omega
    have hg:∀ k,k<l.length→l.getD k default≤(adds l (share (d - sm l) (eqw w))).getD k default:=fun k hk=>by rw [gz hk]; have:=hp k hk; omega
    have hn:∀ x∈adds l (share (d - sm l) (eqw w)),0≤x:=by
      intro x hx
      obtain ⟨k,hk,rfl⟩:=List.mem_iff_getElem.1 hx
      rw [←bO]; rw [dH] at hk
      have:=hg k hk; have:=hl.at hk; omega
    refine ⟨hg,by omega,fun x hx=>⟨hn x hx,?_⟩⟩
    have:=Sh.jF _ hn x hx; omega
  · rw [if_neg h]; exact ⟨fun k _=>Int.le_refl _,by omega,hl⟩
theorem len_one {l:List Int} (h:l.length=1):l=[l.getD 0 default]:=by
  match l,h with
  | [x],_=>rfl
theorem nwin_one {x y d:Int} (hx:0≤x∧x≤1048576) (hy:0≤y∧y≤1048576) (hd:d≤1048576):nwin [x] [y] d=[max x d]:=by
  have e:=len_one (l:=nwin [x] [y] d) (by rw [qZ]; rfl)
  rw [e]
  unfold nwin
  rw [show sm [x]=x by simp [sm]]
  by_cases h:d - x>0
  · rw [if_pos h,gz (by simp)]
    have hw:Bd [y]:=fun z hz=>by simp at hz; subst hz; exact hy
    have hs:=Sh.oD (T:=d - x) (W:=eqw [y]) (fun z hz=>(gb hw.wts z hz).1) (eqw_sm (fun z hz=>(hw z hz).1) (by simp)) (by rw [dZ]; simp)
    have hl:=len_one (l:=share (d - x) (eqw [y])) (by rw [eb,dZ]; rfl)
    rw [hl] at hs
    simp only [sm] at hs
    have hs':(share (d - x) (eqw [y])).getD 0 default=d - x:=by omega
    rw [hs']
    show [x+(d - x)]=_
    congr 1; omega
  · rw [if_neg h]; show [x]=_; congr 1; omega
def lst (C:List am):List Int:=C.map (·.Least)
def mst (C:List am):List Int:=C.map (·.Most)
theorem fD (C:List am):(lst C).length=C.length:=by simp [lst]
theorem eU (C:List am):(mst C).length=C.length:=by simp [mst]
theorem lz {C:List am} {k:Nat} (h:k<C.length):(lst C).getD k default=(C.getD k default).Least:=dk h
theorem j9 {C:List am} {k:Nat} (h:k<C.length):(mst C).getD k default=(C.getD k default).Most:=dk h
def zipc (a b:List Int):List am:=tab a.length fun k=>⟨a.getD k default,b.getD k default⟩
theorem ju (a b:List Int):(zipc a b).length=a.length:=cJ _ _
theorem zipc_at {a b:List Int} {k:Nat} (h:k<a.length):(zipc a b).getD k default=⟨a.getD k default,b.getD k default⟩:=eu h
def dA (L:List ae) (W C:List am) (i:Int):List Int:=nwin (win (lst C) (plc L i).Col.toNat (plc L i).Cols.toNat) (win (mst C) (plc L i).Col.toNat (plc L i).Cols.toNat) (sz (W.getD i.toNat default).Least)
def dB (L:List ae) (W C:List am) (i:Int):List Int:=nwin (win (mst C) (plc L i).Col.toNat (plc L i).Cols.toNat) (dA L W C i) (sz (W.getD i.toNat default).Most)
def dstep (L:List ae) (W C:List am) (i:Int):List am:=pw C (plc L i).Col.toNat (zipc (dA L W C i) (dB L W C i))
def qd (cols:Int) (p:ae):Bool:=decide (p.Col<cols) && decide (p.Cols≤w64 (cols - p.Col))
theorem qd_ok (v:Int) (p:ae):o6 K n p v=some (qd v p):=by
  unfold o6 nl qd
  by_cases h:p.Col<v
  · rw [iteT h]; simp only [h,decide_true,Bool.true_and]
  · rw [iteF h]; simp only [h,decide_false,Bool.false_and]
structure Vd (cols:Nat) (L:List ae) (W:List am) (i:Int):Prop where
  i0:0≤i
  iL:i.toNat<L.length
  iW:i.toNat<W.length
  r0:0≤(plc L i).Col
  r1:1≤(plc L i).Cols
  r2:(plc L i).Col+(plc L i).Cols≤cols
theorem qd_of {cols:Nat} {p:ae} (hr:cols≤10000) (h1:okp p=true) (h2:qd cols p=true):p.Col+p.Cols≤cols:=by
  have:=ls h1
  unfold qd at h2
  simp only [Bool.and_eq_true,decide_eq_true_eq] at h2
  rw [b9 (by omega) (by omega)] at h2; omega
theorem Vd.of {cols:Nat} {L:List ae} {W:List am} (hr:cols≤10000) {i:Int} (h:i∈val L (qd cols) W.length):Vd cols L W i:=by
  obtain ⟨h1,h2,h3,h4,h5⟩:=qt h
  have:=ls h4
  exact ⟨h1,h2,h3,by omega,by omega,qd_of hr h4 h5⟩
structure OkC (cols:Nat) (C:List am):Prop where
  len:C.length=cols
  l:Bd (lst C)
  m:Bd (mst C)
theorem oy {l:List Int} (h:Bd l) {c s:Nat} (hc:c+s≤l.length):Bd (win l c s):=Bd.mk fun k hk=>by
  rw [cz] at hk; rw [ij hk]; exact h.at (by omega)
theorem lst_pw (C:List am) (c:Nat) (N:List am):lst (pw C c N)=pw (lst C) c (lst N):=by
  refine gE (by rw [fD,dq,dq,fD]) (fun k hk=>?_)
  rw [dq,fD] at hk
  rw [lz (by rw [dq]; exact hk),cC hk,cC (by rw [fD]; exact hk),fD]
  split
  · rename_i h; rw [lz (by omega)]
  · rw [lz hk]
theorem mst_pw (C:List am) (c:Nat) (N:List am):mst (pw C c N)=pw (mst C) c (mst N):=by
  refine gE (by rw [eU,dq,dq,eU]) (fun k hk=>?_)
  rw [dq,eU] at hk
  rw [j9 (by rw [dq]; exact hk),cC hk,cC (by rw [eU]; exact hk),eU]
  split
  · rename_i h; rw [j9 (by omega)]
  · rw [j9 hk]
theorem lst_zip (a b:List Int):lst (zipc a b)=a:=gE (by rw [fD,ju]) (fun k hk=>by rw [lz (by rw [ju]; exact hk),zipc_at hk])
theorem mst_zip {a b:List Int} (h:a.length=b.length):mst (zipc a b)=b:=gE (by rw [eU,ju,h]) (fun k hk=>by rw [j9 (by rw [ju,h]; exact hk),zipc_at (by omega)])
theorem dA_len (L:List ae) (W C:List am) (i:Int):(dA L W C i).length=(plc L i).Cols.toNat:=by unfold dA; rw [qZ,cz]
theorem dB_len (L:List ae) (W C:List am) (i:Int):(dB L W C i).length=(plc L i).Cols.toNat:=by unfold dB; rw [qZ,cz]
theorem lst_dstep (L:List ae) (W C:List am) (i:Int):lst (dstep L W C i)=pw (lst C) (plc L i).Col.toNat (dA L W C i):=by unfold dstep; rw [lst_pw,lst_zip]
theorem mst_dstep (L:List ae) (W C:List am) (i:Int):mst (dstep L W C i)=pw (mst C) (plc L i).Col.toNat (dB L W C i):=by unfold dstep; rw [mst_pw,mst_zip (by rw [dA_len,dB_len])]
theorem dstep_len (L:List ae) (W C:List am) (i:Int):(dstep L W C i).length=C.length:=dq _ _ _
theorem dA_ok {cols:Nat} {L:List ae} {W C:List am} {i:Int} (hr:cols≤10000) (h:Vd cols L W i) (hC:OkC cols C) :
    (∀ k,k<(plc L i).Cols.toNat→(lst C).getD ((plc L i).Col.toNat+k) default≤(dA L W C i).getD k default)∧sz (W.getD i.toNat default).Least≤sm (dA L W C i)∧Bd (dA L W C i):=by
  have r0:=h.r0; have r1:=h.r1; have r2:=h.r2
  have b1:=oy hC.l (c:=(plc L i).Col.toNat) (s:=(plc L i).Cols.toNat) (by rw [fD,hC.len]; omega)
  have b2:=oy hC.m (c:=(plc L i).Col.toNat) (s:=(plc L i).Cols.toNat) (by rw [eU,hC.len]; omega)
  obtain ⟨h1,h2,h3⟩:=nwin_ok (d:=sz (W.getD i.toNat default).Least) b1 b2 (by rw [cz,cz]) (by rw [cz]; omega) (by rw [cz]; omega) (dn _).2
  refine ⟨fun k hk=>?_,h2,h3⟩
  have:=h1 k (by rw [cz]; exact hk)
  rwa [ij hk] at this
theorem dB_ok {cols:Nat} {L:List ae} {W C:List am} {i:Int} (hr:cols≤10000) (h:Vd cols L W i) (hC:OkC cols C) :
    (∀ k,k<(plc L i).Cols.toNat→(mst C).getD ((plc L i).Col.toNat+k) default≤(dB L W C i).getD k default)∧sz (W.getD i.toNat default).Most≤sm (dB L W C i)∧Bd (dB L W C i):=by
  have r0:=h.r0; have r1:=h.r1; have r2:=h.r2
  have b2:=oy hC.m (c:=(plc L i).Col.toNat) (s:=(plc L i).Cols.toNat) (by rw [eU,hC.len]; omega)
  obtain ⟨h1,h2,h3⟩:=nwin_ok (d:=sz (W.getD i.toNat default).Most) b2 (dA_ok hr h hC).2.2 (by rw [cz,dA_len]) (by rw [cz]; omega) (by rw [cz]; omega) (dn _).2
  refine ⟨fun k hk=>?_,h2,h3⟩
  have:=h1 k (by rw [cz]; exact hk)
  rwa [ij hk] at this
theorem pw_bd {l N:List Int} {c:Nat} (hl:Bd l) (hN:Bd N):Bd (pw l c N):=Bd.mk fun k hk=>by
  rw [dq] at hk; rw [cC hk]
  split
  · exact hN.at (by omega)
  · exact hl.at hk
theorem pw_ge {l N:List Int} {c:Nat} (hc:c+N.length≤l.length) (h:∀ k,k<N.length→l.getD (c+k) default≤N.getD k default) (k:Nat):l.getD k default≤(pw l c N).getD k default:=by
  by_cases hk:k<l.length
  · rw [cC hk]
    split
    · have:=h (k - c) (by omega)
      rwa [show c+(k - c)=k by omega] at this
    · exact Int.le_refl _
  · have e1:l.getD k default=default:=by rw [List.getD_eq_getElem?_getD,List.getElem?_eq_none (by omega)]; rfl
    have e2:(pw l c N).getD k default=default:=by rw [List.getD_eq_getElem?_getD,List.getElem?_eq_none (by rw [dq]; omega)]; rfl
    rw [e1,e2]; exact Int.le_refl _
theorem pw_wsum {l N:List Int} {c:Nat} (hc:c+N.length≤l.length):wsum (pw l c N) c N.length=sm N:=by
  rw [←win_sm]; congr 1
  refine gE (cz _ _ _) (fun k hk=>?_)
  rw [ij hk,cC (by omega),if_pos (by omega),Nat.add_sub_cancel_left]
theorem dstep_ok {cols:Nat} {L:List ae} {W C:List am} {i:Int} (hr:cols≤10000) (h:Vd cols L W i) (hC:OkC cols C) :
    OkC cols (dstep L W C i)∧(∀ k,(lst C).getD k default≤(lst (dstep L W C i)).getD k default)∧(∀ k,(mst C).getD k default≤(mst (dstep L W C i)).getD k default) ∧
    sz (W.getD i.toNat default).Least≤wsum (lst (dstep L W C i)) (plc L i).Col.toNat (plc L i).Cols.toNat∧sz (W.getD i.toNat default).Most≤wsum (mst (dstep L W C i)) (plc L i).Col.toNat (plc L i).Cols.toNat:=by
  have r0:=h.r0; have r1:=h.r1; have r2:=h.r2
  obtain ⟨a1,a2,a3⟩:=dA_ok hr h hC; obtain ⟨b1,b2,b3⟩:=dB_ok hr h hC
  have hla:=dA_len L W C i; have hlb:=dB_len L W C i
  have ca:(plc L i).Col.toNat+(dA L W C i).length≤(lst C).length:=by rw [hla,fD,hC.len]; omega
  have cb:(plc L i).Col.toNat+(dB L W C i).length≤(mst C).length:=by rw [hlb,eU,hC.len]; omega
  rw [lst_dstep,mst_dstep]
  refine ⟨⟨by rw [dstep_len,hC.len],?_,?_⟩,pw_ge ca (fun k hk=>a1 k (by omega)),pw_ge cb (fun k hk=>b1 k (by omega)),?_,?_⟩
  · rw [lst_dstep]; exact pw_bd hC.l a3
  · rw [mst_dstep]; exact pw_bd hC.m b3
  · rw [←hla,pw_wsum ca]; exact a2
  · rw [←hlb,pw_wsum cb]; exact b2
theorem dfold_ok {cols:Nat} {L:List ae} {W:List am} (hr:cols≤10000):∀ (d:List Int) (C:List am),(∀ i∈d,Vd cols L W i)→OkC cols C →
    OkC cols (d.foldl (dstep L W) C)∧(∀ k,(lst C).getD k default≤(lst (d.foldl (dstep L W) C)).getD k default)∧(∀ k,(mst C).getD k default≤(mst (d.foldl (dstep L W) C)).getD k default) ∧
    ∀ i∈d,sz (W.getD i.toNat default).Least≤wsum (lst (d.foldl (dstep L W) C)) (plc L i).Col.toNat (plc L i).Cols.toNat∧sz (W.getD i.toNat default).Most≤wsum (mst (d.foldl (dstep L W) C)) (plc L i).Col.toNat (plc L i).Cols.toNat
  | [],C,_,hC=>⟨hC,fun k=>Int.le_refl _,fun k=>Int.le_refl _,fun i hi=>by cases hi⟩
  | i::d,C,hd,hC=>by
    obtain ⟨h1,h2,h3,h4,h5⟩:=dstep_ok hr (hd i (by simp)) hC
    obtain ⟨k1,k2,k3,k4⟩:=dfold_ok hr d _ (fun j hj=>hd j (by simp [hj])) h1
    refine ⟨k1,fun k=>Int.le_trans (h2 k) (k2 k),fun k=>Int.le_trans (h3 k) (k3 k),fun j hj=>?_⟩
    rcases List.mem_cons.1 hj with e | hj
    · subst e; exact ⟨Int.le_trans h4 (ql k2 _ _),Int.le_trans h5 (ql k3 _ _)⟩
    · exact k4 j hj
end Go.Proofs.Ytolhpahjgddjkaa.Tb
namespace Go.Proofs.Ytolhpahjgddjkaa.Tb
set_option linter.all false
open Go.RowKit
open Sh (idx fh gq jw iP cK d6 share wts lim mx eb)
open QSort (wn aE iteT iteF sb R)
set_option maxRecDepth 20000
variable {K:Kn} {n:Nat}
theorem tsh {lvl n:Nat} {T:Int} {w:List Int} (hT:0<T∧T≤1048576) (hw:Bd w) (hl:w.length≤10000) (hn:10001<n) (hlv:20010≤lvl):g8 (KN lvl) n T w=some (share T (eqw w)):=by
  rw [tshare_ok T w hl hn hlv,wts_id (gb hw.wts)]
  congr 2; unfold lim mx; omega
theorem add_bd {l w:List Int} {T:Int} (hl:Bd l) (hw:Bd w) (he:l.length=w.length) (hT:0<T∧T≤1048576):∀ k,k<l.length → -4611686018427387904≤l.getD k default+(share T (eqw w)).getD k default∧l.getD k default+(share T (eqw w)).getD k default≤4611686018427387904:=fun k hk=>by
  have h1:=hl.at hk
  have h2:=gX (T:=T) ⟨by omega,hT.2⟩ (fun x hx=>(gb hw.wts x hx).1) k (by rw [dZ]; omega)
  omega
section
variable (L:List ae) (W:List am) (d:List Int) (v33:Int) (C:List am) (L1:Int→List am→Option (List am))
theorem dm_l6 (p:ae) (a b:List Int) (c s:Nat) (hc:p.Col=c) (hs:p.Cols=s) (ha:a.length=s) (hb:b.length=s) (hC:c+s≤C.length) (hr:C.length≤10000):∀ (m t:Nat),t≤s→s<m+t →
    jV K n L W d v33 p a b L1 m (s:Int) (t:Int) (pw C c ((zipc a b).take t))=L1 (w64 (v33+1)) (pw C c (zipc a b)):=by
  intro m
  induction m with
  | zero=>intro t h1 h2; omega
  | succ m ih =>
    intro t h1 h2
    simp only [jV,o4,hc,hs,tnat]
    rw [wn (n:=(c:Int)+(s:Int)) (k:=c+s) (by omega) (by omega),tnat,Nat.add_sub_cancel_left]
    by_cases ht:t<s
    · rw [iteT (by omega),aE (by omega),aE (by omega),aE (by omega),show decide (c+t<(pw C c ((zipc a b).take t)).length)=true from decide_eq_true (by rw [dq]; omega),bx]
      rw [show (⟨a.getD t default,b.getD t default⟩:am)=(zipc a b).getD t default by rw [zipc_at (by omega)],pw_set (by rw [ju]; omega) (by rw [ju]; omega),wn (n:=(t:Int)+1) (k:=t+1) (by omega) (by omega)]
      exact ih (t+1) (by omega) (by omega)
    · obtain rfl:t=s:=by omega
      rw [iteF (by omega),List.take_of_length_le (by rw [ju]; omega)]
      rfl
theorem dm_j5 (p:ae) (a b:List Int) (c s:Nat) (hc:p.Col=c) (hs:p.Cols=s) (ha:a.length=s) (hb:b.length=s) (hC:c+s≤C.length) (hr:C.length≤10000) (hn:10001<n):jz K n L W d v33 C p a L1 b=L1 (w64 (v33+1)) (pw C c (zipc a b)):=by
  unfold jz
  simp only [hc,hs,tnat]
  rw [wn (n:=(c:Int)+(s:Int)) (k:=c+s) (by omega) (by omega),tnat,Nat.add_sub_cancel_left]
  have:=dm_l6 (K:=K) (n:=n) L W d v33 C L1 p a b c s hc hs ha hb hC hr n 0 (by omega) (by omega)
  rw [pw_zero] at this
  exact this
theorem dm_l4 (p:ae) (a P b:List Int) (hP:b.length=P.length) (hl:b.length≤10000) (hb:∀ k,k<b.length → -4611686018427387904≤b.getD k default+P.getD k default∧b.getD k default+P.getD k default≤4611686018427387904):∀ (m i:Nat),i≤b.length→b.length<m+i →
    jX K n L W d v33 C p a P L1 m (i:Int) (mix i (adds b P) b)=jz K n L W d v33 C p a L1 (adds b P):=by
  intro m
  induction m with
  | zero=>intro i h1 h2; omega
  | succ m ih =>
    intro i h1 h2
    simp only [jX,oc]
    have hm:=dK (i:=i) (dH b P)
    by_cases hi:i<b.length
    · rw [iteT (by omega),aE (by omega),hm,aE (by omega),aE (by omega)]
      simp only [tnat]
      have:=hb i hi
      rw [jO (dH b P) hi,show w64 (b.getD i default+P.getD i default)=(adds b P).getD i default by rw [gz hi]; exact b9 (by omega) (by omega),eM (dH b P) hi,wn (n:=(i:Int)+1) (k:=i+1) (by omega) (by omega)]
      exact ih (i+1) (by omega) (by omega)
    · obtain rfl:i=b.length:=by omega
      rw [iteF (by omega),gn (dH b P)]
theorem dm_l2 (p:ae) (v43 v44:Int) (v46 P b:List Int) (hP:b.length=P.length) (hl:b.length≤10000) (hb:∀ k,k<b.length → -4611686018427387904≤b.getD k default+P.getD k default∧b.getD k default+P.getD k default≤4611686018427387904):∀ (m i:Nat),i≤b.length→b.length<m+i →
    mG K n L W d v33 C p v43 v44 v46 P L1 m (i:Int) (mix i (adds b P) b)=iy K n L W d v33 C p v43 v44 v46 L1 (adds b P):=by
  intro m
  induction m with
  | zero=>intro i h1 h2; omega
  | succ m ih =>
    intro i h1 h2
    simp only [mG,oa]
    have hm:=dK (i:=i) (dH b P)
    by_cases hi:i<b.length
    · rw [iteT (by omega),aE (by omega),hm,aE (by omega),aE (by omega)]
      simp only [tnat]
      have:=hb i hi
      rw [jO (dH b P) hi,show w64 (b.getD i default+P.getD i default)=(adds b P).getD i default by rw [gz hi]; exact b9 (by omega) (by omega),eM (dH b P) hi,wn (n:=(i:Int)+1) (k:=i+1) (by omega) (by omega)]
      exact ih (i+1) (by omega) (by omega)
    · obtain rfl:i=b.length:=by omega
      rw [iteF (by omega),gn (dH b P)]
theorem dm_j3 {lvl n:Nat} (p:ae) (v43 dm:Int) (a b:List Int) (c s:Nat) (hc:p.Col=c) (hs:p.Cols=s) (s1:1≤s) (ha:a.length=s) (hb:b.length=s) (ba:Bd a) (bb:Bd b) (hdm:dm≤1048576) (hC:c+s≤C.length) (hr:C.length≤10000) (hn:10001<n) (hlv:20010≤lvl) :
    iy (KN lvl) n L W d v33 C p v43 (dm - sm b) b L1 a=L1 (w64 (v33+1)) (pw C c (zipc a (nwin b a dm))):=by
  unfold iy nwin
  have s0:=cK b (fun x hx=>(bb x hx).1)
  by_cases h:dm - sm b>0
  · rw [iteT h,if_pos h,tsh ⟨by omega,by omega⟩ ba (by omega) hn hlv,sb]
    have hp:b.length=(share (dm - sm b) (eqw a)).length:=by rw [eb,dZ]; omega
    have:=dm_l4 (K:=KN lvl) (n:=n) L W d v33 C L1 p a (share (dm - sm b) (eqw a)) b hp (by omega) (add_bd bb ba (by omega) ⟨by omega,by omega⟩) n 0 (by omega) (by omega)
    rw [gC,show ((0:Nat):Int)=0 from rfl] at this
    rw [this]
    exact dm_j5 L W d v33 C L1 p a _ c s hc hs ha (by rw [dH]; omega) hC hr hn
  · rw [iteF h,if_neg h]
    exact dm_j5 L W d v33 C L1 p a _ c s hc hs ha hb hC hr hn
theorem dm_l1 {lvl n:Nat} (p:ae) (dl dm:Int) (c s:Nat) (hc:p.Col=c) (hs:p.Cols=s) (s1:1≤s) (bl:Bd (lst C)) (bm:Bd (mst C)) (hdl:dl≤1048576) (hdm:dm≤1048576) (hd0:0≤dl) (hd1:0≤dm) (hC:c+s≤C.length) (hr:C.length≤10000) (hn:10001<n) (hlv:20010≤lvl) (L2:Int→List am→Option (List am)):∀ (m t:Nat),t≤s→s<m+t →
    lT (KN lvl) n L W d v33 C p L1 m (s:Int) (t:Int) (dl - wsum (lst C) c t) (dm - wsum (mst C) c t) (mix t (win (lst C) c s) (List.replicate s 0)) (mix t (win (mst C) c s) (List.replicate s 0)) =
      L1 (w64 (v33+1)) (pw C c (zipc (nwin (win (lst C) c s) (win (mst C) c s) dl) (nwin (win (mst C) c s) (nwin (win (lst C) c s) (win (mst C) c s) dl) dm))):=by
  have zl:(List.replicate s (0:Int)).length=s:=by simp
  have e1:(win (lst C) c s).length=(List.replicate s (0:Int)).length:=by rw [cz,zl]
  have e2:(win (mst C) c s).length=(List.replicate s (0:Int)).length:=by rw [cz,zl]
  have ol:Ok 1048576 C.length (lst C):=⟨fD C,bl⟩
  have om:Ok 1048576 C.length (mst C):=⟨eU C,bm⟩
  have wl:=oy bl (c:=c) (s:=s) (by rw [fD]; exact hC)
  have wm:=oy bm (c:=c) (s:=s) (by rw [eU]; exact hC)
  intro m
  induction m with
  | zero=>intro t h1 h2; omega
  | succ m ih =>
    intro t h1 h2
    simp only [lT,po,hc,hs,tnat]
    rw [wn (n:=(c:Int)+(s:Int)) (k:=c+s) (by omega) (by omega),tnat,Nat.add_sub_cancel_left]
    have m1:=dK (i:=t) e1; have m2:=dK (i:=t) e2
    rw [zl] at m1 m2
    by_cases ht:t<s
    · have ht':t<(List.replicate s (0:Int)).length:=by omega
      have b1:=mK ol (a:=c) t (by omega); have b2:=mK om (a:=c) t (by omega)
      have b3:=ol.at (k:=c+t) (by omega); have b4:=om.at (k:=c+t) (by omega)
      have hbb:(t:Int)*1048576≤10000*1048576:=Int.mul_le_mul_of_nonneg_right (by omega) (by omega)
      rw [iteT (by omega),aE (by omega),show decide (c+t<C.length)=true from decide_eq_true (by omega),bx,sb,m1,aE (by omega),m2,aE (by omega)]
      rw [←lz (show c+t<C.length by omega),← j9 (show c+t<C.length by omega)]
      rw [←ij (l:=lst C) (c:=c) ht,← ij (l:=mst C) (c:=c) ht,eM e1 ht',eM e2 ht',ij ht,ij ht]
      rw [b9 (n:=dl - wsum (lst C) c t - (lst C).getD (c+t) default) (by omega) (by omega),b9 (n:=dm - wsum (mst C) c t - (mst C).getD (c+t) default) (by omega) (by omega)]
      rw [show dl - wsum (lst C) c t - (lst C).getD (c+t) default=dl - wsum (lst C) c (t+1) by simp only [wsum]; omega,show dm - wsum (mst C) c t - (mst C).getD (c+t) default=dm - wsum (mst C) c (t+1) by simp only [wsum]; omega,wn (n:=(t:Int)+1) (k:=t+1) (by omega) (by omega)]
      exact ih (t+1) (by omega) (by omega)
    · obtain rfl:t=s:=by omega
      have f1:=gn e1; have f2:=gn e2
      rw [zl] at f1 f2
      rw [iteF (by omega),f1,f2,← win_sm,← win_sm]
      have s0:=cK _ (fun x hx=>(wl x hx).1)
      have hj:∀ a:List Int,a.length=t→Bd a→iy (KN lvl) n L W d v33 C p (dl - sm (win (lst C) c t)) (dm - sm (win (mst C) c t)) (win (mst C) c t) L1 a=L1 (w64 (v33+1)) (pw C c (zipc a (nwin (win (mst C) c t) a dm))):=fun a ha ba =>
        dm_j3 L W d v33 C L1 p _ dm a _ c t hc hs s1 ha (cz _ _ _) ba wm hdm hC hr hn hlv
      have hnw:=nwin_ok (l:=win (lst C) c t) (w:=win (mst C) c t) (d:=dl) wl wm (by rw [cz,cz]) (by rw [cz]; omega) (by rw [cz]; omega) hdl
      have hnl:=qZ (win (lst C) c t) (win (mst C) c t) dl
      by_cases h:dl - sm (win (lst C) c t)>0
      · have en:nwin (win (lst C) c t) (win (mst C) c t) dl=adds (win (lst C) c t) (share (dl - sm (win (lst C) c t)) (eqw (win (mst C) c t))):=by unfold nwin; rw [if_pos h]
        rw [iteT h,tsh ⟨by omega,by omega⟩ wm (by rw [cz]; omega) hn hlv,sb]
        have hp:(win (lst C) c t).length=(share (dl - sm (win (lst C) c t)) (eqw (win (mst C) c t))).length:=by rw [eb,dZ,cz,cz]
        have:=dm_l2 (K:=KN lvl) (n:=n) L W d v33 C L1 p (dl - sm (win (lst C) c t)) (dm - sm (win (mst C) c t)) (win (mst C) c t) _ (win (lst C) c t) hp (by rw [cz]; omega) (add_bd wl wm (by rw [cz,cz]) ⟨by omega,by omega⟩) n 0 (by omega) (by rw [cz]; omega)
        rw [gC,show ((0:Nat):Int)=0 from rfl,← en] at this
        rw [this]
        exact hj _ (by rw [hnl,cz]) hnw.2.2
      · have en:nwin (win (lst C) c t) (win (mst C) c t) dl=win (lst C) c t:=by unfold nwin; rw [if_neg h]
        rw [iteF h,en]
        exact hj _ (cz _ _ _) wl
end
theorem pw_one {α:Type} [Inhabited α] {l N:List α} {c:Nat} {x:α} (hN:N=[x]) (hc:c<l.length):pw l c N=List.set l c x:=by
  subst hN
  refine gE (by rw [dq,List.length_set]) (fun k hk=>?_)
  rw [List.length_set] at hk
  rw [cC hk,set_at hk]
  by_cases h:k=c
  · subst h; rw [if_pos rfl,if_pos (by simp),Nat.sub_self]; rfl
  · rw [if_neg h,if_neg (by simp; omega)]
theorem dA_one {cols:Nat} {L:List ae} {W C:List am} {i:Int} (h:Vd cols L W i) (hC:OkC cols C) (h1:(plc L i).Cols=1):dA L W C i=[max ((lst C).getD (plc L i).Col.toNat default) (sz (W.getD i.toNat default).Least)]∧dB L W C i=[max ((mst C).getD (plc L i).Col.toNat default) (sz (W.getD i.toNat default).Most)]:=by
  have r0:=h.r0; have r2:=h.r2
  have b1:=hC.l.at (k:=(plc L i).Col.toNat) (by rw [fD,hC.len]; omega)
  have b2:=hC.m.at (k:=(plc L i).Col.toNat) (by rw [eU,hC.len]; omega)
  have z1:=dn (W.getD i.toNat default).Least; have z2:=dn (W.getD i.toNat default).Most
  have ea:dA L W C i=[max ((lst C).getD (plc L i).Col.toNat default) (sz (W.getD i.toNat default).Least)]:=by
    unfold dA; rw [h1]; show nwin [_] [_] _=_; exact nwin_one (by simpa using b1) (by simpa using b2) z1.2
  refine ⟨ea,?_⟩
  unfold dB; rw [ea,h1]; show nwin [_] [_] _=_; exact nwin_one (by simpa using b2) (by omega) z2.2
theorem dstep_one {cols:Nat} {L:List ae} {W C:List am} {i:Int} (h:Vd cols L W i) (hC:OkC cols C) (h1:(plc L i).Cols=1) :
    dstep L W C i=List.set C (plc L i).Col.toNat ⟨max (C.getD (plc L i).Col.toNat default).Least (sz (W.getD i.toNat default).Least),max (C.getD (plc L i).Col.toNat default).Most (sz (W.getD i.toNat default).Most)⟩:=by
  obtain ⟨e1,e2⟩:=dA_one h hC h1
  have r0:=h.r0; have r2:=h.r2
  have hk:(plc L i).Col.toNat<C.length:=by rw [hC.len]; omega
  unfold dstep
  rw [lz hk] at e1; rw [j9 hk] at e2
  rw [e1,e2]
  exact pw_one rfl hk
def fin (c:am):am:=⟨c.Least,max c.Most c.Least⟩
theorem dm_l9 (C:List am) (hl:C.length≤10000):∀ (m i:Nat),i≤C.length→C.length<m+i→kT K n C m (i:Int) (mix i (C.map fin) C)=some (C.map fin):=by
  have e:(C.map fin).length=C.length:=by simp
  intro m
  induction m with
  | zero=>intro i h1 h2; omega
  | succ m ih =>
    intro i h1 h2
    simp only [kT,oL]
    by_cases hi:i<C.length
    · rw [iteT (by omega),dK e,aE (by omega),aE (by omega),aE (by omega)]
      simp only [tnat]
      rw [jO e hi]
      have:=eM e hi
      rw [show (C.map fin).getD i default=fin (C.getD i default) by simp [List.getD_eq_getElem?_getD,hi]] at this
      rw [show ({ C.getD i default with Most:=max (C.getD i default).Most (C.getD i default).Least }:am)=fin (C.getD i default) from rfl,this,wn (n:=(i:Int)+1) (k:=i+1) (by omega) (by omega)]
      exact ih (i+1) (by omega) (by omega)
    · obtain rfl:i=C.length:=by omega
      rw [iteF (by omega),gn e]
theorem dm_l8 {lvl n:Nat} {cols:Nat} {L:List ae} {W:List am} {d:List Int} (hr:cols≤10000) (hn:10001<n) (hlv:20010≤lvl) (hd:∀ i∈d,Vd cols L W i) (hl:d.length≤10000):∀ (m t:Nat) (C:List am),t≤d.length→d.length<m+t→OkC cols C →
    jk (KN lvl) n L W d m (t:Int) C=some (((d.drop t).foldl (dstep L W) C).map fin):=by
  intro m
  induction m with
  | zero=>intro t C h1 h2; omega
  | succ m ih =>
    intro t C h1 h2 hC
    simp only [jk,pa]
    by_cases ht:t<d.length
    · have hi:d.getD t default∈d:=by rw [bO ht]; exact List.getElem_mem _
      have hv:=hd _ hi
      have ed:d.drop t=d.getD t default::d.drop (t+1):=by rw [List.drop_eq_getElem_cons ht,bO ht]
      rw [iteT (by omega),aE (by omega)]
      simp only [tnat]
      rw [ed,List.foldl_cons]
      generalize d.getD t default=i at *
      have i0:=hv.i0; have iL:=hv.iL; have iW:=hv.iW; have r0:=hv.r0; have r1:=hv.r1; have r2:=hv.r2
      have hs:=(dstep_ok hr hv hC).1
      have hnext:=ih (t+1) (dstep L W C i) (by omega) (by omega) hs
      have hlen:=hC.len
      rw [aE (by omega),aE (by omega),jm,sb,aE (by omega),jm,sb,sb,show List.getD L i.toNat default=plc L i from rfl]
      rw [wn (n:=(plc L i).Col+(plc L i).Cols) (k:=(plc L i).Col.toNat+(plc L i).Cols.toNat) (by omega) (by omega),Sh.gT (by omega) (by omega) (by omega),bx]
      simp only [tnat,Int.toNat_zero,Nat.add_zero,Nat.add_sub_cancel_left]
      by_cases h1s:(plc L i).Cols=1
      · rw [show ((plc L i).Cols == 1)=true by rw [h1s]; rfl,if_pos rfl]
        have:(plc L i).Cols.toNat=1:=by omega
        rw [this,aE (by omega),show decide ((plc L i).Col.toNat<C.length)=true from decide_eq_true (by omega),bx,aE (by omega),aE (by omega)]
        unfold nE
        rw [←dstep_one hv hC h1s,wn (n:=(t:Int)+1) (k:=t+1) (by omega) (by omega)]
        exact hnext
      · have:((plc L i).Cols == 1)=false:=by rw [beq_eq_false_iff_ne]; exact h1s
        rw [this,if_neg (by decide)]
        obtain ⟨c,ec⟩:∃ c:Nat,(plc L i).Col=c:=⟨(plc L i).Col.toNat,by omega⟩
        obtain ⟨s,es⟩:∃ s:Nat,(plc L i).Cols=s:=⟨(plc L i).Cols.toNat,by omega⟩
        have z1:=dn (W.getD i.toNat default).Least; have z2:=dn (W.getD i.toNat default).Most
        have h1:=dm_l1 (lvl:=lvl) (n:=n) L W d (t:Int) C (jk (KN lvl) n L W d m) (plc L i) (sz (W.getD i.toNat default).Least) (sz (W.getD i.toNat default).Most) c s ec es (by omega) hC.l hC.m z1.2 z2.2 z1.1 z2.1 (by omega) (by omega) hn hlv (fun _ _=>none) n 0 (by omega) (by omega)
        simp only [wsum,Int.sub_zero,gC] at h1
        have ts:(plc L i).Cols.toNat=s:=by omega
        have tc:(plc L i).Col.toNat=c:=by omega
        have eD:dstep L W C i=pw C c (zipc (nwin (win (lst C) c s) (win (mst C) c s) (sz (W.getD i.toNat default).Least)) (nwin (win (mst C) c s) (nwin (win (lst C) c s) (win (mst C) c s) (sz (W.getD i.toNat default).Least)) (sz (W.getD i.toNat default).Most))):=by
          unfold dstep dB dA; rw [ts,tc]
        rw [ts,es,Sh.jD (by omega) (by omega),bx,bx]
        rw [show ((0:Nat):Int)=0 from rfl] at h1
        rw [h1,wn (n:=(t:Int)+1) (k:=t+1) (by omega) (by omega),← eD]
        exact hnext
    · obtain rfl:t=d.length:=by omega
      rw [iteF (by omega),List.drop_length]
      have:=dm_l9 (K:=KN lvl) (n:=n) C (by rw [hC.len]; omega) n 0 (by omega) (by have:=hC.len; omega)
      rw [gC] at this
      exact this
def demands (L:List ae) (W:List am) (cols:Nat):List am:=(grp (fun i=>(plc L i).Cols) (val L (qd cols) W.length) cols).foldl (dstep L W) (List.replicate cols ix)
theorem bd_rep {x:Int} (hx:0≤x∧x≤1048576) (k:Nat):Bd (List.replicate k x):=fun y hy=>by have:=(List.mem_replicate.1 hy).2; omega
theorem OkC.rep (cols:Nat):OkC cols (List.replicate cols ix):=⟨by simp,by unfold lst; rw [List.map_replicate]; exact bd_rep (by decide) _,by unfold mst; rw [List.map_replicate]; exact bd_rep (by decide) _⟩
theorem demands_ok {lvl n:Nat} (L:List ae) (W:List am) (cols:Int) (hr:cols≤10000) (hL:L.length≤10000) (hn:10001<n) (hlv:20020≤lvl):mw (KN lvl) n L W cols=some ((demands L W (max cols 0).toNat).map fin):=by
  unfold mw
  obtain ⟨r,er⟩:∃ r:Nat,max cols 0=r:=⟨(max cols 0).toNat,by omega⟩
  rw [er,Sh.jD (by omega) (by omega),bx,sb,tnat]
  obtain ⟨k,rfl⟩:∃ k,lvl=k+1:=⟨lvl - 1,by omega⟩
  rw [sC (lvl:=k+1) (f:=Fv.c36 (r:Int)) (s:=Fv.fn 37) (q:=qd r) (sp:=fun p=>p.Cols) (fun p=>qd_ok (K:=KN k) (n:=k) (r:Int) p) (fun m p=>rfl) L W.length r hL hn hlv (fun p h1 h2=>by
    have:=ls h1; have:=qd_of (by omega) h1 h2; omega),sb]
  have hd:∀ i∈grp (fun i=>(plc L i).Cols) (val L (qd r) W.length) r,Vd r L W i:=fun i hi=>Vd.of (by omega) (mf hi).1
  have hlen:=grp_len (key:=fun i=>(plc L i).Cols) (V:=val L (qd r) W.length) (fun v hv=>(Vd.of (by omega) hv).r1) r
  exact dm_l8 (lvl:=k+1) (n:=n) (cols:=r) (by omega) hn (by omega) hd (by have:=kN L (qd r) W.length; omega) n 0 _ (by omega) (by have:=kN L (qd r) W.length; omega) (OkC.rep r)
end Go.Proofs.Ytolhpahjgddjkaa.Tb
namespace Go.Proofs.Ytolhpahjgddjkaa
set_option linter.all false
open Go.RowKit
def autoM (l:cn):cn:=if l.Kind=2 then bH else l
def plainM (s:aG):aG:={ s with Width:=autoM s.Width,MinWidth:=autoM s.MinWidth,MaxWidth:=autoM s.MaxWidth,Margin:=⟨autoM s.Margin.a0,autoM s.Margin.a1,autoM s.Margin.a2,autoM s.Margin.a3⟩,Padding:=⟨autoM s.Padding.a0,autoM s.Padding.a1,autoM s.Padding.a2,autoM s.Padding.a3⟩ }
section
variable (K:Kn) (n:Nat)
theorem fu {α:Type} (l:cn) (f:cn→α) (y:α) (hy:y=f l):(if (l.Kind == 2)=true then f bH else y)=f (autoM l):=by
  unfold autoM
  by_cases h:l.Kind=2
  · simp [h]
  · simp [h,hy]
theorem fixed_def (s:aG):kx K n s=some (plainM s):=by
  unfold kx
  refine (fu s.Width (fun l=>lv K n { s with Width:=l }) _ rfl).trans ?_
  unfold lv
  refine (fu s.MinWidth (fun l=>lE K n { s with Width:=autoM s.Width,MinWidth:=l }) _ rfl).trans ?_
  unfold lE
  refine (fu s.MaxWidth (fun l=>mj K n { s with Width:=autoM s.Width,MinWidth:=autoM s.MinWidth,MaxWidth:=l }) _ rfl).trans ?_
  unfold mj
  refine (fu s.Margin.a0 (fun l=>my K n { s with Width:=autoM s.Width,MinWidth:=autoM s.MinWidth,MaxWidth:=autoM s.MaxWidth,Margin:=⟨l,s.Margin.a1,s.Margin.a2,s.Margin.a3⟩ }) _ rfl).trans ?_
  unfold my
  refine (fu s.Padding.a0 (fun l=>lZ K n { s with Width:=autoM s.Width,MinWidth:=autoM s.MinWidth,MaxWidth:=autoM s.MaxWidth,Margin:=⟨autoM s.Margin.a0,s.Margin.a1,s.Margin.a2,s.Margin.a3⟩,Padding:=⟨l,s.Padding.a1,s.Padding.a2,s.Padding.a3⟩ }) _ rfl).trans ?_
  unfold lZ
  refine (fu s.Margin.a1 (fun l=>kV K n { s with Width:=autoM s.Width,MinWidth:=autoM s.MinWidth,MaxWidth:=autoM s.MaxWidth,Margin:=⟨autoM s.Margin.a0,l,s.Margin.a2,s.Margin.a3⟩,Padding:=⟨autoM s.Padding.a0,s.Padding.a1,s.Padding.a2,s.Padding.a3⟩ }) _ rfl).trans ?_
  unfold kV
  refine (fu s.Padding.a1 (fun l=>ml K n { s with Width:=autoM s.Width,MinWidth:=autoM s.MinWidth,MaxWidth:=autoM s.MaxWidth,Margin:=⟨autoM s.Margin.a0,autoM s.Margin.a1,s.Margin.a2,s.Margin.a3⟩,Padding:=⟨autoM s.Padding.a0,l,s.Padding.a2,s.Padding.a3⟩ }) _ rfl).trans ?_
  unfold ml
  refine (fu s.Margin.a2 (fun l=>mD K n { s with Width:=autoM s.Width,MinWidth:=autoM s.MinWidth,MaxWidth:=autoM s.MaxWidth,Margin:=⟨autoM s.Margin.a0,autoM s.Margin.a1,l,s.Margin.a3⟩,Padding:=⟨autoM s.Padding.a0,autoM s.Padding.a1,s.Padding.a2,s.Padding.a3⟩ }) _ rfl).trans ?_
  unfold mD
  refine (fu s.Padding.a2 (fun l=>lU K n { s with Width:=autoM s.Width,MinWidth:=autoM s.MinWidth,MaxWidth:=autoM s.MaxWidth,Margin:=⟨autoM s.Margin.a0,autoM s.Margin.a1,autoM s.Margin.a2,s.Margin.a3⟩,Padding:=⟨autoM s.Padding.a0,autoM s.Padding.a1,l,s.Padding.a3⟩ }) _ rfl).trans ?_
  unfold lU
  refine (fu s.Margin.a3 (fun l=>lf K n { s with Width:=autoM s.Width,MinWidth:=autoM s.MinWidth,MaxWidth:=autoM s.MaxWidth,Margin:=⟨autoM s.Margin.a0,autoM s.Margin.a1,autoM s.Margin.a2,l⟩,Padding:=⟨autoM s.Padding.a0,autoM s.Padding.a1,autoM s.Padding.a2,s.Padding.a3⟩ }) _ rfl).trans ?_
  unfold lf
  refine (fu s.Padding.a3 (fun l=>nA K n { s with Width:=autoM s.Width,MinWidth:=autoM s.MinWidth,MaxWidth:=autoM s.MaxWidth,Margin:=⟨autoM s.Margin.a0,autoM s.Margin.a1,autoM s.Margin.a2,autoM s.Margin.a3⟩,Padding:=⟨autoM s.Padding.a0,autoM s.Padding.a1,autoM s.Padding.a2,l⟩ }) _ rfl).trans ?_
  rfl
def spM:List ab→Int→Int→Int×Int
  | [],a,b=>(a,b)
  | k::r,a,b=>spM r (max a (w64 (8*(k.Text.size:Int)))) (w64 (b+w64 (8*(k.Text.size:Int))))
theorem spread_loop (L:List ab) (hL:L.length≤20):∀ (m i:Nat) (a b:Int),i≤L.length→L.length<m+i→j0 K n L m a b i=some (spM (L.drop i) a b):=by
  intro m
  induction m with
  | zero=>intro i a b h1 h2; omega
  | succ m ih =>
    intro i a b h1 h2
    simp only [j0,nN]
    by_cases hi:i<L.length
    · rw [drop_at' hi]
      simp only [pH hi,if_true,inbN hi,bx,Int.toNat_natCast,step64 (show i<1000000 by omega),spM]
      exact ih (i+1) _ _ (by omega) (by omega)
    · have e:i=L.length:=by omega
      subst e
      simp only [oP (Nat.le_refl _),Bool.false_eq_true,if_false,List.drop_length,spM]
theorem spread_def (L:List ab) (s:aG) (hL:L.length≤20) (hn:20<n):qA K n L s=some (spM L 0 0) :=
  (spread_loop K n L hL n 0 0 0 (by omega) (by omega)).trans (by simp only [List.drop_zero])
end
def frM (s:aG) (c:Int):Int:=sumM (edgesM (plainM s) 0 (clampM (plainM s) 0 c))
def E1:bw:=⟨(Fv.fn 53),(Fv.fn 54),(Fv.fn 55),(Fv.fn 56)⟩
structure Cel (c:ab):Prop where
  k:∃ t,c.Kids=[t]∧t.Kind=3
theorem within_ok {N:Nat} (hN:20<N) (b:ab) (z:aS) {k:ab} (hk:b.Kids=[k]) (h3:k.Kind=3) :
    ∃ f,oQ (KN (N+1)) (N+1) b z E1=some f∧f.Node=b.Node∧f.Kids.length≤1∧∀ x∈f.Kids,x.Kids=[]:=by
  have hO:∀ x,(KN (N+1)).gM (Fv.fn 90) x=some (outerM x):=fun x=>rO (KN N) N x
  have hfl:flowM b=[k]:=by unfold flowM; rw [hk]; simp [inM,h3]
  have hany:(flowM b).any outerM=false:=by rw [hfl]; simp [outerM,h3]
  unfold oQ nH
  rw [bflow_def (KN (N+1)) (N+1) hO b (by rw [hk]; simp) (by omega),hany,hfl]
  simp only [Option.bind_some,Bool.false_eq_true,if_false]
  have hLn:(KN (N+1)).oZ E1.Lines [k] b.Style z.Content=some (linesM b.Style z.Content [k] 0 []):=lines_def (KN N) N [k] b.Style z.Content (by simp) hN
  obtain ⟨l1,l2⟩:=rF b.Style z.Content [k] 0 [] (by simp)
  simp only [List.length_nil,Nat.zero_add,List.length_cons] at l1
  rw [hLn,Option.bind_some,clone_def _ _ _ (by omega),Option.bind_some]
  generalize (linesM b.Style z.Content [k] 0 []).1=L at *
  generalize (linesM b.Style z.Content [k] 0 []).2=y
  have j6:∀ (d h:Int) (bf af:aB) (em:Bool),fJ (KN (N+1)) (N+1) b z ([k],false) L d h bf af em=some (finM b z false L d bf af em (heiM b.Style h)):=fun d h bf af em =>
    bj6 (KN (N+1)) (N+1) (by omega) b z L (by omega) ([k],false) (fun h=>by cases h) d h bf af em
  simp only [pI,iT,Option.bind_some,Bool.false_eq_true,if_false,oK,lK,kz,mg,Bool.not_false,if_true,ite_self,j6]
  split
  all_goals (refine ⟨_,rfl,rfl,by simpa [finM] using l1,fun x hx=>?_⟩; obtain ⟨w,hw,rfl⟩:=List.mem_map.1 hx; rw [kidM_kids]; exact l2 w hw)
def pxM (l:cn):Int×Bool:=if l.Kind=1 then (max (lenM l 0).1 0,true) else (0,false)
theorem px_ok (K:Kn) (n:Nat) (l:cn):iE K n l=some (pxM l):=by
  unfold iE pxM
  by_cases h:l.Kind=1
  · simp [h,gI]
  · simp [h]
theorem cell_ok {N:Nat} (hN:20<N) {c:ab} (hc:Cel c) (content w:Int):∃ f h,jI (KN (N+1)) (N+1) c content w E1=some (f,h)∧f.Node=c.Node∧f.W=w∧f.Style=c.Style∧f.Kids.length≤1∧∀ x∈f.Kids,x.Kids=[]:=by
  obtain ⟨k,hk,h3⟩:=hc.k
  unfold jI
  simp only [l3,Option.bind_some,qO,py,px_ok,l9,ph]
  obtain ⟨f,h1,h2,h4,h5⟩:=within_ok hN ({ c with Style:={ c.Style with Margin:=⟨bH,bH,bH,bH⟩,Height:=bH } }:ab) { edgesM { c.Style with Margin:=⟨bH,bH,bH,bH⟩,Height:=bH } content 0 with Content:=max (w64 (w - sumM (edgesM { c.Style with Margin:=⟨bH,bH,bH,bH⟩,Height:=bH } content 0))) 0 } (k:=k) hk h3
  rw [h1,Option.bind_some]
  split
  · exact ⟨_,_,rfl,h2,rfl,rfl,h4,h5⟩
  · exact ⟨_,_,rfl,h2,rfl,rfl,h4,h5⟩
def insM (c:ab):Int×Int:=if (lenM (plainM c.Style).Width 0).2=true then (limM (lenM (plainM c.Style).Width 0).1,limM (lenM (plainM c.Style).Width 0).1) else (limM (spM c.Kids 0 0).1,limM (spM c.Kids 0 0).2)
def widM (c:ab):Int×Int:=(frM c.Style (insM c).1,frM c.Style (insM c).2)
theorem bwid_ok {N:Nat} (hN:20<N) {b:ab} (hb:Cel b):kk (KN (N+1)) (N+1) b E1=some (widM b):=by
  obtain ⟨k,hk,h3⟩:=hb.k
  have hO:∀ x,(KN (N+1)).gM (Fv.fn 90) x=some (outerM x):=fun x=>rO (KN N) N x
  have hfl:flowM b=[k]:=by unfold flowM; rw [hk]; simp [inM,h3]
  have hany:(flowM b).any outerM=false:=by rw [hfl]; simp [outerM,h3]
  have hin:oe (KN (N+1)) (N+1) b E1=some (insM b):=by
    unfold oe insM
    simp only [fixed_def,Option.bind_some,gI,rf]
    by_cases hw:(lenM (plainM b.Style).Width 0).2=true
    · simp only [hw,if_true]
    · simp only [hw,if_false]
      rw [bflow_def (KN (N+1)) (N+1) hO b (by rw [hk]; simp) (by omega),hany,hfl]
      simp only [Option.bind_some,Bool.not_false,if_true]
      have hS:(KN (N+1)).nz E1.Spread [k] b.Style=some (spM [k] 0 0):=spread_def (KN N) N [k] b.Style (by simp) hN
      rw [hS,hk]; simp only [Option.bind_some]
      simp
  unfold kk
  rw [hin]
  simp only [Option.bind_some,fixed_def,rM,qO,py]
  rfl
end Go.Proofs.Ytolhpahjgddjkaa
namespace Go.Proofs.Ytolhpahjgddjkaa.Tbl
set_option linter.all false
open Go.RowKit
open Tb (rw col abv rowc fL rw_at fS Up up Sp Pl lD places_ok demands demands_ok sz)
open QSort (wn aE iteT iteF sb)
set_option maxRecDepth 20000
def kdM (b:ab) (k:Int):List ab:=b.Kids.filter fun x=>x.Kind == k
theorem kdM_len (b:ab) (k:Int):(kdM b k).length≤b.Kids.length:=List.length_filter_le _ _
def spn (c:ab):V2 Int:=⟨c.Rows,c.Cols⟩
def spr (r:ab):List (V2 Int):=(kdM r 9).map spn
def pln (c:ab):ab:={ c with Style:={ c.Style with Margin:=⟨bH,bH,bH,bH⟩ } }
def wc (c:ab):am:=⟨(widM (pln c)).1,(widM (pln c)).2⟩
theorem pln_cel {c:ab} (h:Cel c):Cel (pln c):=⟨h.k⟩
section
variable (K:Kn) (n:Nat)
theorem kids_loop (b:ab) (kd:Int) (hb:b.Kids.length≤1000):∀ (m i:Nat) (acc:List ab),i≤b.Kids.length→b.Kids.length<m+i→acc.length≤i →
    lp K n b kd m (i:Int) acc=some (acc++(b.Kids.drop i).filter fun x=>x.Kind == kd):=by
  intro m
  induction m with
  | zero=>intro i acc h1 h2; omega
  | succ m ih =>
    intro i acc h1 h2 h3
    simp only [lp,oz]
    by_cases hi:i<b.Kids.length
    · rw [drop_at' hi,iteT (by omega),aE (by omega),sb,Int.toNat_natCast,List.filter_cons]
      cases hq:(b.Kids.getD i default).Kind == kd
      · simp only [Bool.false_eq_true,if_false,lW,step64 (show i<1000000 by omega)]
        exact ih (i+1) acc (by omega) (by omega) (by omega)
      · simp only [if_true,lW,step64 (show i<1000000 by omega)]
        rw [cP (by simp; omega) (by omega),bx,ih (i+1) _ (by omega) (by omega) (by simp; omega)]
        simp only [List.append_assoc,List.singleton_append]
    · have e:i=b.Kids.length:=by omega
      subst e
      rw [iteF (by omega)]; simp
theorem kids_ok (b:ab) (kd:Int) (hb:b.Kids.length≤1000) (hn:1000<n):oO K n b kd=some (kdM b kd):=by
  have:=kids_loop K n b kd hb n 0 [] (by omega) (by omega) (by simp)
  simp only [List.nil_append,List.drop_zero] at this
  exact this
variable (env:bw) (rows:List ab)
theorem ng_l1 (v16:Int) (v18:List (List (V2 Int))) (v19:List ab) (L1:Int→List ab→List (List (V2 Int))→Option bp) (h19:v19.length≤1000) (h18:v18.length≤1000):∀ (m j:Nat) (a:List (V2 Int)) (c:List ab),j≤v19.length→v19.length<m+j→a.length≤j→c.length≤1000000+j →
    jH K n env rows v16 v18 v19 L1 m (j:Int) a c=L1 (w64 (v16+1)) (c++v19.drop j) (v18++[a++(v19.drop j).map spn]):=by
  intro m
  induction m with
  | zero=>intro j a c h1 h2; omega
  | succ m ih =>
    intro j a c h1 h2 h3 h4
    simp only [jH,nX]
    by_cases hj:j<v19.length
    · rw [drop_at' hj,iteT (by omega),aE (by omega),cP (by simp; omega) (by omega),bx,sb,cP (by simp; omega) (by omega),bx,step64 (show j<1000000 by omega),ih (j+1) _ _ (by omega) (by omega) (by simp; omega) (by simp; omega),Int.toNat_natCast]
      simp only [List.append_assoc,List.singleton_append,List.map_cons,spn]
    · have e:j=v19.length:=by omega
      subst e
      rw [iteF (by omega),cP (by simp; omega) (by omega),bx]; simp
theorem ng_l2 (hr:rows.length≤1000) (hk:∀ r∈rows,r.Kids.length≤1000) (hn:1000<n):∀ (m i:Nat) (c:List ab) (a:List (List (V2 Int))),i≤rows.length→rows.length<m+i→c.length≤1000*i→a.length≤i →
    gL K n env rows m (i:Int) c a=(jn K n (a++(rows.drop i).map spr)).bind fun v25=>iK K n env rows (c++(rows.drop i).flatMap fun r=>kdM r 9) v25 n 0 []:=by
  intro m
  induction m with
  | zero=>intro i c a h1 h2; omega
  | succ m ih =>
    intro i c a h1 h2 h3 h4
    simp only [gL,pE]
    by_cases hi:i<rows.length
    · have hm:=hk _ (ey hi)
      have hl:=kdM_len (rows.getD i default) 9
      rw [drop_at' hi,iteT (by omega),aE (by omega),Int.toNat_natCast,kids_ok K n _ 9 hm hn,sb]
      have e:=ng_l1 K n env rows (i:Int) a (kdM (rows.getD i default) 9) (gL K n env rows m) (by omega) (by omega) n 0 [] c (by omega) (by omega) (by simp) (by omega)
      rw [show jH K n env rows (i:Int) a (kdM (rows.getD i default) 9) (gL K n env rows m) n 0 [] c=_ from e,step64 (show i<1000000 by omega),List.drop_zero,List.nil_append,ih (i+1) _ _ (by omega) (by omega) (by rw [List.length_append]; omega) (by rw [List.length_append,List.length_singleton]; omega)]
      simp only [List.append_assoc,List.singleton_append,List.map_cons,List.flatMap_cons,spr]
    · have e:i=rows.length:=by omega
      subst e
      rw [iteF (by omega)]; simp
theorem ng_l3 (cells:List ab) (v25:(List (List ae))×Int) (h1:v25.1.length≤1000) (hc:∀ l∈v25.1,l.length≤1000):∀ (m i:Nat) (a:List ae),i≤v25.1.length→v25.1.length<m+i→a.length≤1000*i →
    iK K n env rows cells v25 m (i:Int) a=gW K n env rows cells v25 (a++(v25.1.drop i).flatten) n 0 []:=by
  intro m
  induction m with
  | zero=>intro i a h1 h2; omega
  | succ m ih =>
    intro i a h1 h2 h3
    simp only [iK,n9]
    by_cases hi:i<v25.1.length
    · have hm:=hc _ (ey hi)
      rw [drop_at' hi,iteT (by omega),aE (by omega),Int.toNat_natCast,cP (by omega) (by omega),bx,step64 (show i<1000000 by omega),ih (i+1) _ (by omega) (by omega) (by rw [List.length_append]; omega)]
      simp only [List.append_assoc,List.flatten_cons]
    · have e:i=v25.1.length:=by omega
      subst e
      rw [iteF (by omega)]; simp
end
theorem ng_l4 {N:Nat} (n:Nat) (hN:20<N) (rows cells:List ab) (v25:(List (List ae))×Int) (v27:List ae) (h1:cells.length≤100000) (hc:∀ c∈cells,Cel c):∀ (m i:Nat) (a:List am),i≤cells.length→cells.length<m+i→a.length≤i →
    gW (KN (N+1)) (N+1) E1 rows cells v25 v27 m (i:Int) a=(mw (KN (N+1)) (N+1) v27 (a++(cells.drop i).map wc) v25.2).bind fun v36=>some (⟨rows,cells,v27,v36⟩:bp):=by
  intro m
  induction m with
  | zero=>intro i a h1 h2; omega
  | succ m ih =>
    intro i a h1 h2 h3
    simp only [gW,nh]
    by_cases hi:i<cells.length
    · have hm:=hc _ (ey hi)
      have hp:l3 (KN (N+1)) (N+1) (cells.getD i default)=some (pln (cells.getD i default)):=rfl
      rw [drop_at' hi,iteT (by omega),aE (by omega),Int.toNat_natCast,hp,sb,bwid_ok hN (pln_cel hm),sb,cP (by simp; omega) (by omega),bx,step64 (show i<1000000 by omega),ih (i+1) _ (by omega) (by omega) (by simp; omega)]
      simp only [List.append_assoc,List.singleton_append,List.map_cons,wc]
    · have e:i=cells.length:=by omega
      subst e
      rw [iteF (by omega)]; simp
structure Tab (b:ab):Prop where
  n:b.Kids.length≤1000
  r:(kdM b 8).length≤20
  k:∀ r∈kdM b 8,r.Kids.length≤1000∧(kdM r 9).length≤20∧∀ c∈kdM r 9,Cel c
  t:((kdM b 8).flatMap fun r=>kdM r 9).length≤90
def rowsM (b:ab):List ab:=kdM b 8
def cellsM (b:ab):List ab:=(rowsM b).flatMap fun r=>kdM r 9
def spsM (b:ab):List (List (V2 Int)):=(rowsM b).map spr
def colsM (b:ab):List am:=(demands (abv (spsM b) (spsM b).length) ((cellsM b).map wc) (col (spsM b) (spsM b).length).toNat).map Tb.fin
theorem Tab.sp {b:ab} (h:Tab b):Sp (spsM b):=⟨by simpa [spsM,rowsM] using h.r,fun row hr=>by
  obtain ⟨r,h1,rfl⟩:=List.mem_map.1 hr
  simpa [spr] using (h.k r h1).2.1⟩
theorem Tab.cel {b:ab} (h:Tab b):∀ c∈cellsM b,Cel c:=fun c hc=>by
  obtain ⟨r,h1,h2⟩:=List.mem_flatMap.1 hc
  exact (h.k r h1).2.2 c h2
theorem Tab.clen {b:ab} (h:Tab b):(cellsM b).length≤90:=h.t
theorem oT (S:List (List (V2 Int))) (k:Nat):(rowc S k).length=(S.getD k default).length:=Tb.qj _ _ _ _ _
theorem abv_len (S:List (List (V2 Int))):∀ k,k≤S.length→(abv S k).length=(S.take k).flatten.length
  | 0,_=>by simp [abv,rw]
  | k+1,hk=>by
    rw [fS,List.length_append,abv_len S k (by omega),oT,List.take_succ_eq_append_getElem (by omega),List.flatten_append,List.length_append,bO (by omega)]
    simp
theorem jU {S:List (List (V2 Int))} (hS:Sp S):∀ k,k≤S.length→col S k≤100*((abv S k).length:Int)
  | 0,_=>by simp [abv,col,rw,Tb.cmax]
  | k+1,hk=>by
    have h:=up hS k (by omega)
    have:=(Tb.rX (R:=S.length) (r:=k) (f:=Tb.cov (abv S k) k) (by omega) (S.getD k default) 0 (col S k) (h.free k) (by omega) h.c.1).2
    have ih:=jU hS k (by omega)
    rw [Tb.qW,fS,List.length_append,oT]
    unfold rowc; omega
theorem flat_spn (b:ab):(spsM b).flatten=(cellsM b).map spn:=by
  unfold spsM cellsM
  rw [List.map_flatMap,← List.flatMap_def]; rfl
theorem jd (b:ab):(abv (spsM b) (spsM b).length).length=(cellsM b).length:=by
  rw [abv_len _ _ (Nat.le_refl _),List.take_length,flat_spn,List.length_map]
theorem grid_ok {N:Nat} (hN:300000≤N) {b:ab} (h:Tab b):nT (KN (N+1)) (N+1) b E1=some ⟨rowsM b,cellsM b,abv (spsM b) (spsM b).length,colsM b⟩:=by
  unfold nT
  rw [kids_ok _ _ b 8 h.n (by omega),sb]
  have hS:=h.sp
  have hl2:=ng_l2 (KN (N+1)) (N+1) E1 (kdM b 8) (by have:=h.r; omega) (fun r hr=>(h.k r hr).1) (by omega) (N+1) 0 [] [] (by omega) (by have:=h.r; omega) (by simp) (by simp)
  rw [show gL (KN (N+1)) (N+1) E1 (kdM b 8) (N+1) 0 [] []=_ from hl2]
  simp only [List.drop_zero,List.nil_append]
  rw [show (kdM b 8).map spr=spsM b from rfl,places_ok hS (by omega),sb]
  have hu:=up hS (spsM b).length (Nat.le_refl _)
  have hSr:=hS.r
  have hcl:∀ l∈rw (spsM b) (spsM b).length,l.length≤1000:=fun l hl=>by
    obtain ⟨i,hi,rfl⟩:=List.mem_iff_getElem.1 hl
    rw [fL] at hi
    have:=rw_at (spsM b) hi
    rw [bO (by rw [fL]; exact hi)] at this
    rw [this,oT]
    have:=hS.at hi; omega
  have hl3:=ng_l3 (KN (N+1)) (N+1) E1 (kdM b 8) ((kdM b 8).flatMap fun r=>kdM r 9) (rw (spsM b) (spsM b).length,col (spsM b) (spsM b).length) (by rw [fL]; omega) hcl (N+1) 0 [] (by omega) (by rw [fL]; omega) (by simp)
  rw [show iK (KN (N+1)) (N+1) E1 (kdM b 8) ((kdM b 8).flatMap fun r=>kdM r 9) (rw (spsM b) (spsM b).length,col (spsM b) (spsM b).length) (N+1) 0 []=_ from hl3]
  simp only [List.drop_zero,List.nil_append]
  have hcn:=h.clen
  have hl4:=ng_l4 (N:=N) (N+1) (by omega) (kdM b 8) (cellsM b) (rw (spsM b) (spsM b).length,col (spsM b) (spsM b).length) (rw (spsM b) (spsM b).length).flatten (by omega) h.cel (N+1) 0 [] (by omega) (by omega) (by simp)
  rw [show gW (KN (N+1)) (N+1) E1 (kdM b 8) ((kdM b 8).flatMap fun r=>kdM r 9) (rw (spsM b) (spsM b).length,col (spsM b) (spsM b).length) (rw (spsM b) (spsM b).length).flatten (N+1) 0 []=_ from hl4]
  simp only [List.drop_zero,List.nil_append]
  have hc:=hu.c; have hl:=hu.l
  have hcb:=jU hS (spsM b).length (Nat.le_refl _)
  rw [jd] at hcb
  rw [demands_ok _ _ _ (by omega) (show (rw (spsM b) (spsM b).length).flatten.length≤10000 from by have:(abv (spsM b) (spsM b).length).length≤20*(spsM b).length:=hl; unfold abv at this; omega) (by omega) (by omega),sb,show max (col (spsM b) (spsM b).length) 0=col (spsM b) (spsM b).length by omega]
  rfl
end Go.Proofs.Ytolhpahjgddjkaa.Tbl

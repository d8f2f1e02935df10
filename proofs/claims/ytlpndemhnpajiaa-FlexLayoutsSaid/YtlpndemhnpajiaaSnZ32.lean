/- Plain laws about the plain functions: words for all of them. No program in sight. -/
import Derived.Test.YtlpndemhnpajiaaSnGf
namespace Go.Proofs.Ytlpndemhnpajiaa
set_option linter.all false
open Go.RowKit
theorem bp {n:Int} (h1 : -9223372036854775808≤n) (h2:n≤9223372036854775807):w64 n=n:=by
  unfold w64; rw [IntKind.wrap_i64]; omega
theorem bB {α:Type} (x:Option α):chk true x=x:=rfl
theorem chk_map {α β:Type} (f:α→β) (c:Bool) (x:Option α):(chk c x).map f=chk c (x.map f):=by cases c<;>rfl
theorem ite_map {α β:Type} (f:α→β) (c:Prop) [Decidable c] (x y:Option α):(if c then x else y).map f=if c then x.map f else y.map f:=by split<;>rfl
theorem hH {i:Int} {n:Nat} (h0:0≤i) (h1:i<n):inb i n=true:=by simp [inb,h0,h1]
theorem bc {α:Type} [Inhabited α] {L:List α} {k:Nat} (h:k<L.length):L.getD k default=L[k]:=by simp [List.getD_eq_getElem?_getD,List.getElem?_eq_getElem h]
theorem cg {n b:Nat} (h:n*b≤140737488355328) (hb:0<b):fits n b=true:=by
  have h1:n≤n*b:=Nat.le_mul_of_pos_right n hb
  have h2:n≤9223372036854775807:=by omega
  simp only [fits,Bool.and_eq_true,decide_eq_true_eq]
  exact ⟨h2,h⟩
end Go.Proofs.Ytlpndemhnpajiaa
namespace Go.Proofs.Ytlpndemhnpajiaa
set_option linter.all false
open Go.RowKit
set_option linter.unusedSimpArgs false
def placedOf (r:(List aa)×Int×ah×ah×Bool):bZ:=⟨r.1,r.2.1,r.2.2.1,r.2.2.2.1,r.2.2.2.2⟩
theorem stack_l4 (K:Kn) (n:Nat) (L:List aa):∀ (m:Nat) (i h:Int) (b:ah) (t:Bool) (mm:ah) (l:List aa),
    ky K n L m i h b t mm l=(fa K n L m h t i b mm l).map placedOf
  | 0,_,_,_,_,_,_=>rfl
  | m+1,i,h,b,t,mm,l=>by
    simp only [ky,kC,fa,iE,eX,fG,dr,dc,Option.bind_some,lk,li,ke,j6,iq,ij,ir,iw,stack_l4 K n L m,ite_map,chk_map,Option.map_some,placedOf]
theorem stack_eq (K:Kn) (n:Nat) (L:List aa):lR K n L=(gQ K n L).map placedOf:=stack_l4 K n L n _ _ _ _ _ _
theorem stack_tot_l4 (K:Kn) (n:Nat) (L:List aa) (hL:(L.length:Int)≤9223372036854775807):∀ (m:Nat) (i h:Int) (b:ah) (t:Bool) (mm:ah) (l:List aa),0≤i→i≤L.length→(L.length:Int)<m+i→((l.length:Int)+L.length)*584≤140737488355328+i*584 →
    ∃ r,fa K n L m h t i b mm l=some r∧(r.1.length:Int)=l.length+L.length - i∧(∀ f∈r.1,f∈l∨∃ g∈L,f.Kids=g.Kids):=by
  intro m
  induction m with
  | zero=>intro i _ _ _ _ _ h0 h1 h2 _; omega
  | succ m ih =>
    intro i h b t mm l h0 h1 h2 h3
    simp only [fa,iE]
    by_cases hi:i<(L.length:Int)
    · have hin:=hH h0 hi
      have hw:w64 (i+1)=i+1:=bp (by omega) (by omega)
      have hf:fits (l.length+1) 584=true:=cg (by omega) (by omega)
      have key:∀ (h':Int) (t':Bool) (b' mm':ah) (y:Int),∃ r,fa K n L m h' t' (i+1) b' mm' (l++[{ L.getD i.toNat default with Y:=y }])=some r∧(r.1.length:Int)=l.length+L.length - i∧(∀ f∈r.1,f∈l∨∃ g∈L,f.Kids=g.Kids):=by
        intro h' t' b' mm' y
        obtain ⟨r,hr,hlen,hk⟩:=ih (i+1) h' b' t' mm' (l++[{ L.getD i.toNat default with Y:=y }]) (by omega) (by omega) (by omega) (by simp only [List.length_append,List.length_cons,List.length_nil]; omega)
        refine ⟨r,hr,by rw [hlen]; simp only [List.length_append,List.length_cons,List.length_nil]; omega,fun f hf=>?_⟩
        rcases hk f hf with hm | hm
        · rcases List.mem_append.1 hm with hm | hm
          · exact .inl hm
          · right
            have hlt:i.toNat<L.length:=by omega
            refine ⟨L[i.toNat],List.getElem_mem _,?_⟩
            simp only [List.mem_cons,List.not_mem_nil,or_false] at hm
            rw [hm,bc hlt]
        · exact .inr hm
      simp only [hi,decide_true,if_true,hin,bB,eX,dc,Option.bind_some,iq,ij,ir,List.length_cons,List.length_nil,Nat.zero_add,hf,hw]
      repeat (first | exact key _ _ _ _ _ | split)
    · have:decide (i<(L.length:Int))=false:=by simpa using hi
      simp only [this,Bool.false_eq_true,if_false,iw]
      split<;>exact ⟨_,rfl,by show (l.length:Int)=_; omega,fun f hf=>.inl hf⟩
theorem stack_tot (K:Kn) (n:Nat) (L:List aa) (hn:L.length<n) (hL:L.length*584≤140737488355328):∃ r,gQ K n L=some r∧r.1.length=L.length∧∀ f∈r.1,∃ g∈L,f.Kids=g.Kids:=by
  obtain ⟨r,h1,hlen,h2⟩:=stack_tot_l4 K n L (by omega) n 0 0 cR true cR [] (by omega) (by omega) (by omega) (by simp; omega)
  exact ⟨r,h1,by simp only [List.length_nil] at hlen; omega,fun f hf=>(h2 f hf).elim (fun h=>by cases h) (fun h=>h)⟩
theorem qStyle_refl (s:aE):uZ s s=true:=by simp [uZ,dX]
theorem qMargin_refl (s:ah):tz s s=true:=by simp [tz]
end Go.Proofs.Ytlpndemhnpajiaa
namespace Go.Proofs.Ytlpndemhnpajiaa
set_option linter.all false
open Go.RowKit
def lenM (l:aQ) (b:Int):Int×Bool :=
  if l.Kind=1 then (min (max l.Value (-1048576)) 1048576,true)
  else if l.Kind=2 then (min (max (w64 (Int.tdiv (w64 ((min (max b 0) 1048576)*(min (max l.Value (-1000000)) 1000000))) 10000)) (-1048576)) 1048576,true)
  else (0,false)
def limM (x:Int):Int:=min (max x 0) 1048576
section
variable (K:Kn) (n:Nat)
theorem ro (x:Int):dw K n x=some (limM x):=rfl
theorem rT (x:Int):dk K n x=some (limM x):=rfl
theorem eT (l:aQ) (b:Int):cA K n l b=some (lenM l b):=by
  unfold cA lenM
  by_cases h1:l.Kind=1
  · simp [h1,iR]
  · by_cases h2:l.Kind=2
    · simp [h2,iR,dw]
    · simp [h1,h2]
theorem pi (l:aQ) (b:Int):cW K n l b=some (lenM l b):=by
  unfold cW lenM
  by_cases h1:l.Kind=1
  · simp [h1,gh]
  · by_cases h2:l.Kind=2
    · simp [h2,gh,dk]
    · simp [h1,h2]
def clampM (s:aE) (w c:Int):Int :=
  let m:=if (lenM s.MaxWidth w).2=true then min (max c 0) (max (lenM s.MaxWidth w).1 0) else max c 0
  if (lenM s.MinWidth w).2=true then max m (lenM s.MinWidth w).1 else m
theorem clamp_def (s:aE) (w c:Int):ib K n s w c=some (clampM s w c):=by
  unfold ib clampM
  simp only [eT,Option.bind_some,kf,lD]
  repeat (first | rfl | split)
theorem un (s:aE) (w c:Int):ia K n s w c=some (clampM s w c):=by
  unfold ia clampM
  simp only [pi,Option.bind_some,lW,ld]
  repeat (first | rfl | split)
def edgesM (s:aE) (w c:Int):ay :=
  ⟨⟨(lenM s.Margin.a0 w).1,(lenM s.Margin.a1 w).1,(lenM s.Margin.a2 w).1,(lenM s.Margin.a3 w).1⟩,⟨limM s.Border.a0,limM s.Border.a1,limM s.Border.a2,limM s.Border.a3⟩,
    ⟨max (lenM s.Padding.a0 w).1 0,max (lenM s.Padding.a1 w).1 0,max (lenM s.Padding.a2 w).1 0,max (lenM s.Padding.a3 w).1 0⟩,c⟩
theorem tI (s:aE) (w c:Int):fq K n s w c=some (edgesM s w c):=by
  simp only [fq,eT,ro,Option.bind_some,edgesM]
theorem oL (s:aE) (w c:Int):fH K n s w c=some (edgesM s w c):=by
  simp only [fH,pi,rT,Option.bind_some,edgesM]
def sumM (z:ay):Int:=w64 ((w64 ((w64 ((w64 ((w64 ((w64 (z.Content+z.Margin.a1))+z.Margin.a3))+z.Border.a1))+z.Border.a3))+z.Padding.a1))+z.Padding.a3)
theorem s6 (z:ay):fC K n z=some (sumM z):=rfl
theorem n9 (z:ay):gq K n z=some (sumM z):=rfl
def used1 (s:aE) (v3:Int) (e:ay) (c:Int):ay :=
  let r:=w64 (v3 - sumM { e with Content:=c })
  if r≤0 then { e with Content:=c }
  else if (lenM s.Margin.a3 v3).2=false∧(lenM s.Margin.a1 v3).2=false then { e with Content:=c,Margin:=⟨e.Margin.a0,w64 (r - w64 (Int.tdiv r 2)),e.Margin.a2,w64 (Int.tdiv r 2)⟩ }
  else if (lenM s.Margin.a3 v3).2=false then { e with Content:=c,Margin:=⟨e.Margin.a0,e.Margin.a1,e.Margin.a2,r⟩ }
  else if (lenM s.Margin.a1 v3).2=false then { e with Content:=c,Margin:=⟨e.Margin.a0,r,e.Margin.a2,e.Margin.a3⟩ }
  else { e with Content:=c }
def usedM (s:aE) (w:Int):ay :=
  let v3:=limM w
  let e:=edgesM s v3 0
  let x:=if (lenM s.Width v3).2=true then (lenM s.Width v3).1 else w64 (v3 - sumM e)
  used1 s v3 e (clampM s v3 x)
theorem used_j1 (s:aE) (v3:Int) (e:ay) (x:Int):jO K n s v3 e x=some (used1 s v3 e (clampM s v3 x)):=by
  simp only [jO,clamp_def,s6,Option.bind_some,eT,used1]
  cases h3:(lenM s.Margin.a3 v3).2<;>cases h1:(lenM s.Margin.a1 v3).2<;>simp [kF,gN,h3,h1]<;>split<;>rfl
theorem rused_j1 (s:aE) (v3:Int) (e:ay) (x:Int):iM K n s v3 e x=some (used1 s v3 e (clampM s v3 x)):=by
  simp only [iM,un,n9,Option.bind_some,pi,used1]
  cases h3:(lenM s.Margin.a3 v3).2<;>cases h1:(lenM s.Margin.a1 v3).2<;>simp [lO,gS,h3,h1]<;>split<;>rfl
theorem used_def (s:aE) (w:Int):jL K n s w=some (usedM s w):=by
  simp only [jL,ro,tI,eT,s6,Option.bind_some,used_j1,usedM]
  cases h:(lenM s.Width (limM w)).2<;>simp [h]
theorem rused_def (s:aE) (w:Int):jl K n s w=some (usedM s w):=by
  simp only [jl,rT,oL,pi,n9,Option.bind_some,rused_j1,usedM]
  cases h:(lenM s.Width (limM w)).2<;>simp [h]
def smallM (l:aQ):Prop := -16777216≤l.Value∧l.Value≤16777216
theorem eG (l:aQ):∃ b,dm K n l=some b∧(b=true→smallM l):=by
  unfold dm qA
  by_cases h:l.Value ≥ -16777216
  · simp only [h,decide_true,if_true]
    exact ⟨_,rfl,fun e=>⟨h,of_decide_eq_true e⟩⟩
  · simp only [h,decide_false,Bool.false_eq_true,if_false]
    exact ⟨_,rfl,fun e=>by cases e⟩
structure FewS (x:bU):Prop where
  text:(x.Text.size:Int)≤60
  left:smallM x.Style.Left
  top:smallM x.Style.Top
  width:smallM x.Style.Width
  height:smallM x.Style.Height
  minw:smallM x.Style.MinWidth
  maxw:smallM x.Style.MaxWidth
  basis:smallM x.Style.Basis
  lh:0≤x.Style.LineHeight∧x.Style.LineHeight≤65536
  fs:0≤x.Style.FontSize∧x.Style.FontSize≤65536
  grow:0≤x.Style.Grow∧x.Style.Grow≤1048576
  shrink:0≤x.Style.Shrink∧x.Style.Shrink≤1048576
  m0:smallM x.Style.Margin.a0
  m1:smallM x.Style.Margin.a1
  m2:smallM x.Style.Margin.a2
  m3:smallM x.Style.Margin.a3
  p0:smallM x.Style.Padding.a0
  p1:smallM x.Style.Padding.a1
  p2:smallM x.Style.Padding.a2
  p3:smallM x.Style.Padding.a3
theorem few_round (L:List bU) (m:Int) (L1:Int→Option Bool) (i:Int) (h0:0≤i) (hi:i<L.length):jd K n L m L1 i=some false∨(FewS (L.getD i.toNat default)∧jd K n L m L1 i=L1 (w64 (i+1))):=by
  unfold jd
  simp only [hi,decide_true,if_true,hH h0 hi,bB]
  generalize hx:L.getD i.toNat default=x
  have j5:∀ b,n4 K n L m i L1 b=if b=true then some false else L1 (w64 (i+1)):=fun b=>rfl
  obtain ⟨b1,e1,f1⟩:=eG K n x.Style.Left
  obtain ⟨b2,e2,f2⟩:=eG K n x.Style.Top
  obtain ⟨b3,e3,f3⟩:=eG K n x.Style.Width
  obtain ⟨b4,e4,f4⟩:=eG K n x.Style.Height
  obtain ⟨b5,e5,f5⟩:=eG K n x.Style.MinWidth
  obtain ⟨b6,e6,f6⟩:=eG K n x.Style.MaxWidth
  obtain ⟨b7,e7,f7⟩:=eG K n x.Style.Basis
  obtain ⟨c0,g0,k0⟩:=eG K n x.Style.Margin.a0
  obtain ⟨c1,g1,k1⟩:=eG K n x.Style.Margin.a1
  obtain ⟨c2,g2,k2⟩:=eG K n x.Style.Margin.a2
  obtain ⟨c3,g3,k3⟩:=eG K n x.Style.Margin.a3
  obtain ⟨d0,q0,r0⟩:=eG K n x.Style.Padding.a0
  obtain ⟨d1,q1,r1⟩:=eG K n x.Style.Padding.a1
  obtain ⟨d2,q2,r2⟩:=eG K n x.Style.Padding.a2
  obtain ⟨d3,q3,r3⟩:=eG K n x.Style.Padding.a3
  have jt:c8 K n L m i L1 true=some false:=rfl
  have j1:c8 K n L m i L1 false=some false∨((c0=true∧c1=true∧c2=true∧c3=true∧d0=true∧d1=true∧d2=true∧d3=true)∧c8 K n L m i L1 false=L1 (w64 (i+1))):=by
    simp only [c8,si,rq,qq,n4,hx,g0,g1,g2,g3,q0,q1,q2,q3,Option.bind_some]
    cases c0<;>cases d0<;>cases c1<;>cases d1<;>cases c2<;>cases d2<;>cases c3<;>cases d3<;>simp
  simp only [e1,e2,e3,e4,e5,e6,e7,Option.bind_some,jt]
  by_cases t0:(x.Text.size:Int)>60
  · left; simp [t0]
  simp only [t0,decide_false,Bool.false_eq_true,if_false]
  cases b1
  · left; simp
  simp only [Bool.not_true,Bool.false_eq_true,if_false]
  cases b2
  · left; simp
  simp only [Bool.not_true,Bool.false_eq_true,if_false]
  cases b3
  · left; simp
  simp only [Bool.not_true,Bool.false_eq_true,if_false]
  cases b4
  · left; simp
  simp only [Bool.not_true,Bool.false_eq_true,if_false]
  cases b5
  · left; simp
  simp only [Bool.not_true,Bool.false_eq_true,if_false]
  cases b6
  · left; simp
  simp only [Bool.not_true,Bool.false_eq_true,if_false]
  cases b7
  · left; simp
  simp only [Bool.not_true,Bool.false_eq_true,if_false]
  by_cases u1:x.Style.LineHeight<0
  · left; simp [u1]
  simp only [u1,decide_false,Bool.false_eq_true,if_false]
  by_cases u2:x.Style.LineHeight>65536
  · left; simp [u2]
  simp only [u2,decide_false,Bool.false_eq_true,if_false]
  by_cases u3:x.Style.FontSize<0
  · left; simp [u3]
  simp only [u3,decide_false,Bool.false_eq_true,if_false]
  by_cases u4:x.Style.FontSize>65536
  · left; simp [u4]
  simp only [u4,decide_false,Bool.false_eq_true,if_false]
  by_cases u5:x.Style.Grow<0
  · left; simp [u5]
  simp only [u5,decide_false,Bool.false_eq_true,if_false]
  by_cases u6:x.Style.Grow>1048576
  · left; simp [u6]
  simp only [u6,decide_false,Bool.false_eq_true,if_false]
  by_cases u7:x.Style.Shrink<0
  · left; simp [u7]
  simp only [u7,decide_false,Bool.false_eq_true,if_false]
  by_cases u8:x.Style.Shrink>1048576
  · left; simp only [u8,decide_true]; exact jt
  simp only [u8,decide_false]
  rcases j1 with h | ⟨⟨a0,a1,a2,a3,p0,p1,p2,p3⟩,h⟩
  · exact .inl h
  · refine .inr ⟨⟨by omega,f1 rfl,f2 rfl,f3 rfl,f4 rfl,f5 rfl,f6 rfl,f7 rfl,⟨by omega,by omega⟩,⟨by omega,by omega⟩,⟨by omega,by omega⟩,⟨by omega,by omega⟩,k0 a0,k1 a1,k2 a2,k3 a3,r0 p0,r1 p1,r2 p2,r3 p3⟩,h⟩
theorem few_loop (L:List bU) (mx:Int) (hL:(L.length:Int)≤9223372036854775807):∀ (m:Nat) (i:Int),0≤i→i≤L.length→(L.length:Int)<m+i →
    ∃ b,nc K n L mx m i=some b∧(b=true→(L.length:Int)≤mx∧∀ k,i.toNat≤k→k<L.length→FewS (L.getD k default)):=by
  intro m
  induction m with
  | zero=>intro i h0 h1 h2; omega
  | succ m ih =>
    intro i h0 h1 h2
    show ∃ b,jd K n L mx (nc K n L mx m) i=some b∧_
    by_cases hi:i<(L.length:Int)
    · rcases few_round K n L mx (nc K n L mx m) i h0 hi with h | ⟨h,h'⟩
      · exact ⟨false,h,fun e=>by cases e⟩
      · obtain ⟨b,hb,hk⟩:=ih (i+1) (by omega) (by omega) (by omega)
        rw [h',bp (by omega) (by omega)]
        refine ⟨b,hb,fun e=>⟨(hk e).1,fun k h3 h4=>?_⟩⟩
        by_cases e2:k=i.toNat
        · subst e2; exact h
        · exact (hk e).2 k (by omega) h4
    · have hd:decide (i<(L.length:Int))=false:=by simpa using hi
      unfold jd
      simp only [hd,Bool.false_eq_true,if_false]
      exact ⟨_,rfl,fun e=>⟨of_decide_eq_true e,fun k h3 h4=>by omega⟩⟩
theorem few_tot (L:List bU) (mx:Int) (hL:(L.length:Int)≤9223372036854775807) (hn:L.length<n):∃ b,tB K n L mx=some b∧(b=true→(L.length:Int)≤mx∧∀ x∈L,FewS x):=by
  obtain ⟨b,h1,h2⟩:=few_loop K n L mx hL n 0 (by omega) (by omega) (by omega)
  refine ⟨b,h1,fun e=>⟨(h2 e).1,fun x hx=>?_⟩⟩
  obtain ⟨k,hk,rfl⟩:=List.mem_iff_getElem.1 hx
  have:=(h2 e).2 k (by simp) hk
  rwa [bc hk] at this
end
end Go.Proofs.Ytlpndemhnpajiaa
namespace Go.Proofs.Ytlpndemhnpajiaa
set_option linter.all false
open Go.RowKit
theorem step64 {i:Nat} (h:i<1000000):w64 ((i:Int)+1)=((i+1:Nat):Int):=by rw [bp (by omega) (by omega)]; omega
theorem d6 {i n:Nat} (h:i<n):decide ((i:Int)<(n:Int))=true:=by simpa using h
theorem dY {i n:Nat} (h:n≤i):decide ((i:Int)<(n:Int))=false:=by simpa using h
theorem inbN {i n:Nat} (h:i<n):inb (i:Int) n=true:=hH (by omega) (by omega)
theorem drop_at' {α:Type} [Inhabited α] {L:List α} {i:Nat} (h:i<L.length):L.drop i=L.getD i default::L.drop (i+1):=by
  rw [bc h]; exact List.drop_eq_getElem_cons h
theorem dG {α:Type} [Inhabited α] {L:List α} {i:Nat} (h:i<L.length):L.getD i default∈L:=by
  rw [bc h]; exact List.getElem_mem h
def inM (k:ab):Bool:=k.Kind == 3 || k.Style.Position != 2
def outerM (k:ab):Bool:=k.Kind == 1 || (k.Kind == 6 || k.Kind == 7)
theorem flow_def (K:Kn) (n:Nat) (k:ab):jB K n k=some (inM k):=by
  unfold jB inM kX; cases h:k.Kind == 3<;>simp
theorem in_def (K:Kn) (n:Nat) (k:ab):i7 K n k=some (inM k):=by
  unfold i7 inM kI; cases h:k.Kind == 3<;>simp
theorem ut (K:Kn) (n:Nat) (k:ab):gy K n k=some (outerM k):=by
  unfold gy outerM jE
  cases h:k.Kind == 1<;>cases h2:k.Kind == 6<;>simp
theorem index_loop (K:Kn) (n:Nat) (hO:∀ x,K.fr (Fv.fn 111) x=some (outerM x)) (L:List ab) (hL:L.length≤20):∀ (m i:Nat),i≤L.length→L.length<m+i →
    ∃ r,jJ K n L (Fv.fn 111) m i=some r∧decide (r≥0)=(L.drop i).any outerM:=by
  intro m
  induction m with
  | zero=>intro i h1 h2; omega
  | succ m ih =>
    intro i h1 h2
    simp only [jJ,jZ]
    by_cases hi:i<L.length
    · rw [drop_at' hi]
      simp only [d6 hi,if_true,inbN hi,bB,hO,Option.bind_some,Int.toNat_natCast,List.any_cons,step64 (show i<1000000 by omega)]
      cases hq:outerM (L.getD i default)
      · simp only [Bool.false_eq_true,if_false,Bool.false_or]
        exact ih (i+1) (by omega) (by omega)
      · exact ⟨_,rfl,by simp⟩
    · have e:i=L.length:=by omega
      subst e
      simp only [dY (Nat.le_refl _),Bool.false_eq_true,if_false,List.drop_length]
      exact ⟨_,rfl,by simp⟩
theorem contains_def (K:Kn) (n:Nat) (hO:∀ x,K.fr (Fv.fn 111) x=some (outerM x)) (L:List ab) (hL:L.length≤20) (hn:20<n):jR K n L (Fv.fn 111)=some (L.any outerM):=by
  obtain ⟨r,h1,h2⟩:=index_loop K n hO L hL n 0 (by omega) (by omega)
  unfold jR mN
  rw [show jJ K n L (Fv.fn 111) n 0=some r from h1]
  simp only [Option.bind_some,h2,List.drop_zero]
theorem flow_loop (K:Kn) (n:Nat) (b:ab) (hb:b.Kids.length≤20):∀ (m i:Nat) (acc:List ab),i≤b.Kids.length→b.Kids.length<m+i→acc.length≤i →
    j8 K n b m i acc=(jR K n (acc++(b.Kids.drop i).filter inM) (Fv.fn 111)).bind fun v=>some (acc++(b.Kids.drop i).filter inM,v):=by
  intro m
  induction m with
  | zero=>intro i acc h1 h2; omega
  | succ m ih =>
    intro i acc h1 h2 h3
    simp only [j8,lK]
    by_cases hi:i<b.Kids.length
    · rw [drop_at' hi]
      simp only [d6 hi,if_true,inbN hi,bB,flow_def,Option.bind_some,kB,Int.toNat_natCast,List.length_cons,List.length_nil,step64 (show i<1000000 by omega),List.filter_cons]
      cases hq:inM (b.Kids.getD i default)
      · simp only [Bool.false_eq_true,if_false]
        exact ih (i+1) acc (by omega) (by omega) (by omega)
      · simp only [if_true]
        rw [cg (by omega) (by omega),bB,ih (i+1) _ (by omega) (by omega) (by simp; omega)]
        simp only [List.append_assoc,List.singleton_append]
    · have e:i=b.Kids.length:=by omega
      subst e
      simp only [dY (Nat.le_refl _),Bool.false_eq_true,if_false,List.drop_length,List.filter_nil,List.append_nil]
def flowM (b:ab):List ab:=b.Kids.filter inM
theorem tD {b:ab}:(flowM b).length≤b.Kids.length:=List.length_filter_le _ _
theorem bflow_def (K:Kn) (n:Nat) (hO:∀ x,K.fr (Fv.fn 111) x=some (outerM x)) (b:ab) (hb:b.Kids.length≤20) (hn:20<n):iL K n b=some (flowM b,(flowM b).any outerM):=by
  have h:=flow_loop K n b hb n 0 [] (by omega) (by omega) (by simp)
  unfold iL
  refine (show _=_ from h).trans ?_
  simp only [List.nil_append,List.drop_zero]
  rw [show b.Kids.filter inM=flowM b from rfl,contains_def K n hO _ (Nat.le_trans tD hb) hn]
  rfl
theorem inside_loop (K:Kn) (n:Nat) (b:ab) (hb:b.Kids.length≤20):∀ (m i:Nat) (acc:List ab),i≤b.Kids.length→b.Kids.length<m+i→acc.length≤i →
    kG K n b m i acc=some (acc++(b.Kids.drop i).filter inM):=by
  intro m
  induction m with
  | zero=>intro i acc h1 h2; omega
  | succ m ih =>
    intro i acc h1 h2 h3
    simp only [kG,lv]
    by_cases hi:i<b.Kids.length
    · rw [drop_at' hi]
      simp only [d6 hi,if_true,inbN hi,bB,in_def,Option.bind_some,jY,Int.toNat_natCast,List.length_cons,List.length_nil,step64 (show i<1000000 by omega),List.filter_cons]
      cases hq:inM (b.Kids.getD i default)
      · simp only [Bool.false_eq_true,if_false]
        exact ih (i+1) acc (by omega) (by omega) (by omega)
      · simp only [if_true]
        rw [cg (by omega) (by omega),bB,ih (i+1) _ (by omega) (by omega) (by simp; omega)]
        simp only [List.append_assoc,List.singleton_append]
    · have e:i=b.Kids.length:=by omega
      subst e
      simp only [dY (Nat.le_refl _),Bool.false_eq_true,if_false,List.drop_length,List.filter_nil,List.append_nil]
theorem uA (K:Kn) (n:Nat) (b:ab) (hb:b.Kids.length≤20) (hn:20<n):iQ K n b=some (flowM b):=by
  have h:=inside_loop K n b hb n 0 [] (by omega) (by omega) (by simp)
  exact (show _=_ from h).trans (by simp only [List.nil_append,List.drop_zero]; rfl)
theorem router_loop (K:Kn) (n:Nat) (L:List ab) (hL:L.length≤20):∀ (m i:Nat),i≤L.length→L.length<m+i→lw K n L m i=some ((L.drop i).any fun k=>k.Kind == 1):=by
  intro m
  induction m with
  | zero=>intro i h1 h2; omega
  | succ m ih =>
    intro i h1 h2
    simp only [lw,lY]
    by_cases hi:i<L.length
    · rw [drop_at' hi]
      simp only [d6 hi,if_true,inbN hi,bB,Int.toNat_natCast,List.any_cons,step64 (show i<1000000 by omega)]
      cases hq:(L.getD i default).Kind == 1
      · simp only [Bool.false_eq_true,if_false,Bool.false_or]
        exact ih (i+1) (by omega) (by omega)
      · simp
    · have e:i=L.length:=by omega
      subst e
      simp [dY (Nat.le_refl _)]
theorem router_def (K:Kn) (n:Nat) (b:ab) (hb:b.Kids.length≤20) (hn:20<n):jM K n b=some ((flowM b).any fun k=>k.Kind == 1):=by
  unfold jM
  rw [uA K n b hb hn,Option.bind_some]
  have := @tD b
  exact (router_loop K n (flowM b) (by omega) n 0 (by omega) (by omega)).trans (by simp only [List.drop_zero])
def linesM (s:aE) (w:Int):List ab→Int→List aa→List aa×Int
  | [],y,acc=>(acc,y)
  | k::r,y,acc=>if k.Text.toList == (⟨#[]⟩:ByteArray).toList then linesM s w r y acc else linesM s w r (w64 (y+s.LineHeight)) (acc++[{ bv with Kind:=2,Y:=y,W:=w,H:=s.LineHeight,Text:=k.Text }])
theorem lines_loop (K:Kn) (n:Nat) (L:List ab) (s:aE) (w:Int) (hL:L.length≤20):∀ (m i:Nat) (y:Int) (acc:List aa),i≤L.length→L.length<m+i→acc.length≤i →
    lE K n L s w m y i acc=some (linesM s w (L.drop i) y acc):=by
  intro m
  induction m with
  | zero=>intro i y acc h1 h2; omega
  | succ m ih =>
    intro i y acc h1 h2 h3
    simp only [lE,kp]
    by_cases hi:i<L.length
    · rw [drop_at' hi]
      simp only [d6 hi,if_true,inbN hi,bB,Option.bind_some,l6,Int.toNat_natCast,List.length_cons,List.length_nil,step64 (show i<1000000 by omega),linesM]
      cases hq:(L.getD i default).Text.toList == (⟨#[]⟩:ByteArray).toList
      · simp only [Bool.not_false,Bool.false_eq_true,if_false,if_true]
        rw [cg (by omega) (by omega),bB,ih (i+1) _ _ (by omega) (by omega) (by simp; omega)]
      · simp only [Bool.not_true,Bool.false_eq_true,if_false,if_true]
        exact ih (i+1) _ acc (by omega) (by omega) (by omega)
    · have e:i=L.length:=by omega
      subst e
      simp only [dY (Nat.le_refl _),Bool.false_eq_true,if_false,List.drop_length,linesM]
theorem lines_def (K:Kn) (n:Nat) (L:List ab) (s:aE) (w:Int) (hL:L.length≤20) (hn:20<n):iC K n L s w=some (linesM s w L 0 []) :=
  (lines_loop K n L s w hL n 0 0 [] (by omega) (by omega) (by simp)).trans (by simp only [List.drop_zero])
theorem tV (s:aE) (w:Int):∀ (L:List ab) (y:Int) (acc:List aa),(∀ f∈acc,f.Kids=[])→(linesM s w L y acc).1.length≤acc.length+L.length∧∀ f∈(linesM s w L y acc).1,f.Kids=[]
  | [],y,acc,h=>⟨by simp [linesM],h⟩
  | k::r,y,acc,h=>by
    unfold linesM
    split
    · have:=tV s w r y acc h
      exact ⟨by simp only [List.length_cons]; omega,this.2⟩
    · have:=tV s w r (w64 (y+s.LineHeight)) (acc++[{ bv with Kind:=2,Y:=y,W:=w,H:=s.LineHeight,Text:=k.Text }]) (fun f hf=>by
        rcases List.mem_append.1 hf with hf | hf
        · exact h f hf
        · simp only [List.mem_cons,List.not_mem_nil,or_false] at hf; subst hf; rfl)
      refine ⟨?_,this.2⟩
      have h1:=this.1
      simp only [List.length_append,List.length_cons,List.length_nil] at h1 ⊢
      omega
def movM (f:aa) (w:Int):aa :=
  if f.Style.Position=1 then { f with X:=w64 (f.X+(lenM f.Style.Left w).1),Y:=if f.Style.Top.Kind=1 then w64 (f.Y+(lenM f.Style.Top 0).1) else f.Y } else f
theorem moved_def (K:Kn) (n:Nat) (f:aa) (w:Int):jP K n f w=some (movM f w):=by
  unfold jP movM
  simp only [eT,Option.bind_some,km]
  by_cases h:f.Style.Position=1
  · by_cases h2:f.Style.Top.Kind=1<;>simp [h,h2]
  · simp [h]
theorem rmoved_def (K:Kn) (n:Nat) (f:aa) (w:Int):jf K n f w=some (movM f w):=by
  unfold jf movM
  simp only [pi,Option.bind_some,lq]
  by_cases h:f.Style.Position=1
  · by_cases h2:f.Style.Top.Kind=1<;>simp [h,h2]
  · simp [h]
theorem movM_kids (f:aa) (w:Int):(movM f w).Kids=f.Kids:=by unfold movM; split<;>rfl
def Fd:Nat→aa→Prop
  | 0,_=>False
  | d+1,f=>f.Kids.length≤20∧∀ k∈f.Kids,Fd d k
theorem same_loop1 (N n:Nat) (f:aa) (hf:f.Kids.length≤20) (hk:∀ k∈f.Kids,(KN N).sX k k=some true):∀ (m i:Nat),i≤f.Kids.length→f.Kids.length<m+i→oK (KN N) n f f m i=some true:=by
  intro m
  induction m with
  | zero=>intro i h1 h2; omega
  | succ m ih =>
    intro i h1 h2
    simp only [oK,qL]
    by_cases hi:i<f.Kids.length
    · simp only [d6 hi,if_true,inbN hi,bB,Int.toNat_natCast,hk _ (dG hi),Option.bind_some,Bool.not_true,Bool.false_eq_true,if_false,step64 (show i<1000000 by omega)]
      exact ih (i+1) (by omega) (by omega)
    · have e:i=f.Kids.length:=by omega
      subst e
      simp [dY (Nat.le_refl _)]
theorem same_self:∀ (d N n:Nat) (f:aa),Fd d f→d≤N+1→20<n→d+20≤N→nD (KN N) n f f=some true
  | 0,_,_,_,h,_,_,_=>h.elim
  | d+1,N,n,f,h,h1,h2,h3=>by
    have hl:=same_loop1 N n f h.1 (fun k hk=>by
      match N,h1,h3 with
      | N+1,h1,h3 =>
        show nD (KN N) N k k=some true
        by_cases hd:d=0
        · subst hd; exact (h.2 k hk).elim
        · exact same_self d N N k (h.2 k hk) (by omega) (by omega) (by omega)) n 0 (by omega) (by have:=h.1; omega)
    unfold nD
    simp only [bne_self_eq_false,beq_self_eq_true,Bool.not_true,Bool.false_eq_true,if_false,qStyle_refl,qMargin_refl,dZ]
    exact hl
end Go.Proofs.Ytlpndemhnpajiaa
namespace Go.Proofs.Ytlpndemhnpajiaa
set_option linter.all false
open Go.RowKit
theorem w64_eq {a b:Int} (h:a % 18446744073709551616=b % 18446744073709551616):w64 a=w64 b:=by
  unfold w64; rw [IntKind.wrap_i64,IntKind.wrap_i64]; omega
theorem fy (a:Int):w64 a % 18446744073709551616=a % 18446744073709551616:=by
  unfold w64; rw [IntKind.wrap_i64]; omega
def kidM (bl:Bool) (z:ay) (down:Int) (f:aa):aa :=
  if bl=true then movM { f with X:=w64 (f.X+w64 (z.Border.a3+z.Padding.a3)),Y:=w64 (f.Y+w64 (w64 (z.Border.a0+z.Padding.a0)+down)) } z.Content
  else { f with X:=w64 (f.X+w64 (z.Border.a3+z.Padding.a3)),Y:=w64 (f.Y+w64 (w64 (z.Border.a0+z.Padding.a0)+down)) }
theorem kidM_kids (bl:Bool) (z:ay) (down:Int) (f:aa):(kidM bl z down f).Kids=f.Kids:=by
  unfold kidM; split
  · rw [movM_kids]
  · rfl
def finM (b:ab) (z:ay) (bl:Bool) (L:List aa) (d:Int) (bf af:ah) (em:Bool) (h:Int):aa :=
  ⟨1,b.Node,z.Margin.a3,0,w64 (z.Content+w64 (w64 (w64 (z.Border.a3+z.Padding.a3)+z.Border.a1)+z.Padding.a1)),w64 (w64 (w64 (w64 (h+z.Border.a0)+z.Padding.a0)+z.Border.a2)+z.Padding.a2),0,⟨#[]⟩,b.Style,bf,af,em,L.map (kidM bl z d)⟩
theorem set_mid {α:Type} (A R:List α) (x y:α):(A++x::R).set A.length y=A++y::R:=by
  rw [List.set_append_right _ _ (Nat.le_refl _)]; simp
theorem getD_mid {α:Type} (A R:List α) (x d:α):(A++x::R).getD A.length d=x:=by simp [List.getD_eq_getElem?_getD]
theorem bfin_loop (K:Kn) (n:Nat) (b:ab) (z:ay) (v6:(List ab)×Bool) (L:List aa) (d:Int) (bf af:ah) (em:Bool) (v39 H:Int) (hl:L.length≤20) (ho:v6.2=true→v6.1.length=L.length∧∀ k∈v6.1,outerM k=true) :
    ∀ (m:Nat) (A R:List aa),A.length+R.length=L.length→R.length<m→mc K n b z v6 L d bf af em v39 H m (A.length:Int) (A++R) =
      some ⟨1,b.Node,z.Margin.a3,0,w64 (z.Content+v39),H,0,⟨#[]⟩,b.Style,bf,af,em,A++R.map (kidM v6.2 z d)⟩:=by
  intro m
  induction m with
  | zero=>intro A R _ h2; omega
  | succ m ih =>
    intro A R h1 h2
    simp only [mc,lJ]
    cases R with
    | nil =>
      have e:A.length=L.length:=by simpa using h1
      simp only [dY (show L.length≤A.length by omega),Bool.false_eq_true,if_false,List.map_nil]
    | cons x R =>
      simp only [List.length_cons] at h1 h2
      have hA:A.length<L.length:=by omega
      have nx:=ih (A++[kidM v6.2 z d x]) R (by simp; omega) (by omega)
      simp only [List.append_assoc,List.singleton_append,List.length_append,List.length_cons,List.length_nil,Nat.zero_add] at nx
      simp only [d6 hA,if_true,Int.toNat_natCast,set_mid,getD_mid,inbN (show A.length<(A++x::R).length by simp),List.length_append,List.length_cons,inbN (show A.length<A.length+(R.length+1) by omega),bB,ut,Option.bind_some,lX,kq,moved_def,step64 (show A.length<1000000 by omega),List.map_cons]
      cases hv:v6.2 with
      | false =>
        rw [hv] at nx
        simp only [Bool.false_eq_true,if_false]
        simp only [kidM,Bool.false_eq_true,if_false] at nx ⊢
        exact nx
      | true =>
        rw [hv] at nx
        obtain ⟨g1,g2⟩:=ho hv
        have hin:A.length<v6.1.length:=by omega
        simp only [if_true,inbN hin,bB,g2 _ (dG hin)]
        simp only [kidM,if_true] at nx ⊢
        exact nx
theorem rfin_loop (K:Kn) (n:Nat) (b:ab) (z:ay) (W:Int) (bl:Bool) (v13:Int) (v14 v15:ah) (v16:Bool) (L:List aa) (d:Int) (bf af:ah) (em:Bool) (H:Int) (hl:L.length≤20) :
    ∀ (m i:Nat) (acc:List aa),i≤L.length→L.length<m+i→acc.length≤i→lU K n b z W bl v13 v14 v15 v16 L d bf af em m i H acc =
      some ⟨1,b.Node,z.Margin.a3,0,W,H,0,⟨#[]⟩,b.Style,bf,af,em,acc++(L.drop i).map (kidM bl z d)⟩:=by
  intro m
  induction m with
  | zero=>intro i acc _ h2; omega
  | succ m ih =>
    intro i acc h1 h2 h3
    simp only [lU,kx]
    by_cases hi:i<L.length
    · rw [drop_at' hi]
      simp only [d6 hi,if_true,inbN hi,bB,rmoved_def,Option.bind_some,kS,Int.toNat_natCast,List.length_cons,List.length_nil,step64 (show i<1000000 by omega),List.map_cons]
      rw [cg (by omega) (by omega)]
      cases bl with
      | false =>
        simp only [Bool.false_eq_true,if_false,bB]
        rw [ih (i+1) _ (by omega) (by omega) (by simp; omega)]
        simp only [List.append_assoc,List.singleton_append,kidM,Bool.false_eq_true,if_false]
      | true =>
        simp only [if_true,bB]
        rw [ih (i+1) _ (by omega) (by omega) (by simp; omega)]
        simp only [List.append_assoc,List.singleton_append,kidM,if_true]
    · have e:i=L.length:=by omega
      subst e
      simp only [dY (Nat.le_refl _),Bool.false_eq_true,if_false,List.drop_length,List.map_nil,List.append_nil]
def refW (z:ay):Int:=w64 (w64 (w64 (w64 (z.Content+z.Border.a1)+z.Border.a3)+z.Padding.a1)+z.Padding.a3)
section
variable (K:Kn) (n:Nat) (hn:20<n) (b:ab) (z:ay) (L:List aa) (hl:L.length≤20)
include hn hl
theorem bj8 (v6:(List ab)×Bool) (ho:v6.2=true→v6.1.length=L.length∧∀ k∈v6.1,outerM k=true) (d:Int) (bf af:ah) (em:Bool) (h:Int):jC K n b z v6 L d bf af em h=some (finM b z v6.2 L d bf af em h):=by
  unfold jC
  simp only [m7,Option.bind_some]
  exact bfin_loop K n b z v6 L d bf af em _ _ hl ho n [] L (by simp) (by omega)
theorem rj11 (bl:Bool) (v13:Int) (v14 v15:ah) (v16:Bool) (d:Int) (bf af:ah) (em:Bool) (h:Int):jp K n b z (refW z) bl v13 v14 v15 v16 L d bf af em h=some (finM b z bl L d bf af em h):=by
  unfold jp
  refine (rfin_loop K n b z (refW z) bl v13 v14 v15 v16 L d bf af em _ hl n 0 [] (by omega) (by omega) (by simp)).trans ?_
  simp only [List.nil_append,List.drop_zero,finM,refW]
  have e1:w64 (w64 (w64 (w64 (z.Content+z.Border.a1)+z.Border.a3)+z.Padding.a1)+z.Padding.a3)=w64 (z.Content+w64 (w64 (w64 (z.Border.a3+z.Padding.a3)+z.Border.a1)+z.Padding.a1)):=by
    apply w64_eq
    have:=fy (w64 (w64 (z.Content+z.Border.a1)+z.Border.a3)+z.Padding.a1)
    have:=fy (w64 (z.Content+z.Border.a1)+z.Border.a3)
    have:=fy (z.Content+z.Border.a1)
    have:=fy (w64 (w64 (z.Border.a3+z.Padding.a3)+z.Border.a1)+z.Padding.a1)
    have:=fy (w64 (z.Border.a3+z.Padding.a3)+z.Border.a1)
    have:=fy (z.Border.a3+z.Padding.a3)
    omega
  have e2:w64 (w64 (w64 (w64 (h+z.Border.a0)+z.Border.a2)+z.Padding.a0)+z.Padding.a2)=w64 (w64 (w64 (w64 (h+z.Border.a0)+z.Padding.a0)+z.Border.a2)+z.Padding.a2):=by
    apply w64_eq
    have:=fy (w64 (w64 (h+z.Border.a0)+z.Border.a2)+z.Padding.a0)
    have:=fy (w64 (h+z.Border.a0)+z.Border.a2)
    have:=fy (w64 (w64 (h+z.Border.a0)+z.Padding.a0)+z.Border.a2)
    have:=fy (w64 (h+z.Border.a0)+z.Padding.a0)
    omega
  rw [e1,e2]
def heiM (s:aE) (h:Int):Int:=if s.Height.Kind=1 then max (min (max s.Height.Value (-1048576)) 1048576) 0 else max h 0
theorem bj6 (v6:(List ab)×Bool) (ho:v6.2=true→v6.1.length=L.length∧∀ k∈v6.1,outerM k=true) (d h:Int) (bf af:ah) (em:Bool):fQ K n b z v6 L d h bf af em=some (finM b z v6.2 L d bf af em (heiM b.Style h)):=by
  unfold fQ
  simp only [eT,Option.bind_some,lg,bj8 K n hn b z L hl v6 ho]
  by_cases hk:b.Style.Height.Kind=1
  · simp [hk,heiM,lenM]
  · simp only [heiM,hk,if_false,beq_iff_eq,Bool.false_eq_true]
    split<;>rfl
def pixM (l:aQ):Int×Bool:=if l.Kind=1 then (max (min (max l.Value (-1048576)) 1048576) 0,true) else (0,false)
omit hn hl in
theorem pix_def (l:aQ):i8 K n l=some (pixM l):=by
  unfold i8 pixM
  by_cases h:l.Kind=1<;>simp [h,gh]
theorem rj10 (bl:Bool) (v13:Int) (v14 v15:ah) (v16:Bool) (d h:Int) (bf af:ah) (em:Bool):fi K n b z (refW z) bl v13 v14 v15 v16 L (pixM b.Style.Height) d h bf af em=some (finM b z bl L d bf af em (heiM b.Style h)):=by
  unfold fi
  simp only [rj11 K n hn b z L hl]
  by_cases hk:b.Style.Height.Kind=1<;>simp [hk,pixM,heiM]
def ofM (x:Int):ah:=⟨max x 0,min x 0⟩
def mbM (m:ah):Prop:=0≤m.Pos∧m.Pos≤16777216 ∧ -16777216≤m.Neg∧m.Neg≤0
instance (m:ah):Decidable (mbM m):=by unfold mbM; infer_instance
def zmb (z:ay):Prop:=(-16777216≤z.Margin.a0∧z.Margin.a0≤16777216)∧(-16777216≤z.Margin.a2∧z.Margin.a2≤16777216)
def MB (f:aa):Prop:=mbM f.Before∧mbM f.After
theorem j5_eq (v6:(List ab)×Bool) (ho:v6.2=true→v6.1.length=L.length∧∀ k∈v6.1,outerM k=true) (above below:Bool) (h:Int) (through:Bool) (bf af:ah) :
    ∃ d e f g x,gt K n b z above below v6 h through bf af L=some (finM b z v6.2 L d e f g x)∧gi K n b z (refW z) v6.2 h bf af through L (pixM b.Style.Height) above below=some (finM b z v6.2 L d e f g x) ∧
      (above=false→below=false→g=false∧e=ofM z.Margin.a0∧f=ofM z.Margin.a2)∧(mbM bf→mbM af→zmb z→mbM e∧mbM f):=by
  have c1:∀ x y:Int,w64 (x+y)=w64 (y+x):=fun x y=>by rw [Int.add_comm]
  have c3:∀ y u:Int,w64 (h+w64 (y+u))=w64 (w64 (y+h)+u):=fun y u=>by
    apply w64_eq
    have:=fy (y+u)
    have:=fy (y+h)
    omega
  cases above<;>cases below<;>cases through <;>
    simp only [gt,lG,jc,jQ,gi,ln,jw,l7,lP,gL,gI,eX,fG,dc,dr,Option.bind_some,Bool.not_true,Bool.not_false,Bool.false_eq_true,if_true,if_false,
      bj6 K n hn b z L hl v6 ho,rj10 K n hn b z L hl] <;>
    refine ⟨_,_,_,_,_,rfl,?_,?_,?_⟩<;>first | (intro hb ha hz; unfold mbM at *; unfold zmb at hz; dsimp only; refine ⟨?_,?_⟩<;>omega) | exact fun _ _=>⟨rfl,rfl,rfl⟩ | (intro h1 h2; contradiction) | rfl | (rw [c1 h]; done) | (rw [c3]; done)
end
def GoodB:Nat→ab→Prop
  | 0,_=>False
  | d+1,b=>b.Kids.length≤20∧((∀ k∈b.Kids,k.Kind=1∧GoodB d k)∨∀ k∈b.Kids,k.Kind=3)
theorem qw:∀ {d:Nat} {f g:aa},f.Kids=g.Kids→Fd d g→Fd d f
  | 0,_,_,_,h=>h.elim
  | d+1,f,g,e,h=>by unfold Fd at h ⊢; rw [e]; exact h
theorem Fd_leaf {d:Nat} {f:aa} (h:f.Kids=[]):Fd (d+1) f:=by unfold Fd; rw [h]; simp
section
variable (K:Kn) (n:Nat)
theorem bl1_loop (b:ab) (z:ay) (v3 v4:Bool) (env:bw) (v6:(List ab)×Bool) (F:ab→aa) (hl:v6.1.length≤20) (hF:∀ k∈v6.1,K.dD env.Layout k z.Content=some (F k)) :
    ∀ (m i:Nat) (acc:List aa),i≤v6.1.length→v6.1.length<m+i→acc.length≤i→iU K n b z v3 v4 env v6 m i acc =
      (gQ K n (acc++(v6.1.drop i).map F)).bind fun v12=>gt K n b z v3 v4 v6 v12.2.1 v12.2.2.2.2 v12.2.2.1 v12.2.2.2.1 v12.1:=by
  intro m
  induction m with
  | zero=>intro i acc _ h2; omega
  | succ m ih =>
    intro i acc h1 h2 h3
    simp only [iU,l9]
    by_cases hi:i<v6.1.length
    · rw [drop_at' hi]
      simp only [d6 hi,if_true,inbN hi,bB,hF _ (dG hi),Option.bind_some,Int.toNat_natCast,List.length_cons,List.length_nil,step64 (show i<1000000 by omega),List.map_cons]
      rw [cg (by omega) (by omega),bB,ih (i+1) _ (by omega) (by omega) (by simp; omega)]
      simp only [List.append_assoc,List.singleton_append]
    · have e:i=v6.1.length:=by omega
      subst e
      simp only [dY (Nat.le_refl _),Bool.false_eq_true,if_false,List.drop_length,List.map_nil,List.append_nil]
theorem rl1_loop (b:ab) (z:ay) (v3 v4:Bool) (L:List ab) (F:ab→aa) (hl:L.length≤20) (hF:∀ k∈L,K.dq k z.Content=some (F k)) :
    ∀ (m i:Nat) (acc:List aa),i≤L.length→L.length<m+i→acc.length≤i→jI K n b z v3 (refW z) v4 L m i acc =
      (lR K n (acc++(L.drop i).map F)).bind fun v11=>gj K n b z v3 (refW z) v4 v11.Height v11.Before v11.After v11.Through v11.List:=by
  intro m
  induction m with
  | zero=>intro i acc _ h2; omega
  | succ m ih =>
    intro i acc h1 h2 h3
    simp only [jI,lN]
    by_cases hi:i<L.length
    · rw [drop_at' hi]
      simp only [d6 hi,if_true,inbN hi,bB,hF _ (dG hi),Option.bind_some,Int.toNat_natCast,List.length_cons,List.length_nil,step64 (show i<1000000 by omega),List.map_cons]
      rw [cg (by omega) (by omega),bB,ih (i+1) _ (by omega) (by omega) (by simp; omega)]
      simp only [List.append_assoc,List.singleton_append]
    · have e:i=L.length:=by omega
      subst e
      simp only [dY (Nat.le_refl _),Bool.false_eq_true,if_false,List.drop_length,List.map_nil,List.append_nil]
end
def aboveM (b:ab) (z:ay) (share:Bool):Bool:=share && (b.Style.Overflow == 0 && w64 (z.Border.a0+z.Padding.a0) == 0)
def belowM (b:ab) (z:ay) (share:Bool):Bool:=share && (b.Style.Overflow == 0 && (w64 (z.Border.a2+z.Padding.a2) == 0 && b.Style.Height.Kind != 1))
theorem rj2 (K:Kn) (n:Nat) (b:ab) (z:ay) (share bl:Bool) (h:Int) (bf af:ah) (th:Bool) (L:List aa) :
    gj K n b z share (refW z) bl h bf af th L=gi K n b z (refW z) bl h bf af th L (pixM b.Style.Height) (aboveM b z share) (belowM b z share):=by
  unfold gj aboveM belowM
  simp only [pix_def,Option.bind_some,kD,lQ]
  have e:(!(pixM b.Style.Height).2)=(b.Style.Height.Kind != 1):=by
    unfold pixM; by_cases hk:b.Style.Height.Kind=1<;>simp [hk]
  rw [e]
  cases share
  · simp
  · cases ho:b.Style.Overflow == 0
    · simp
    · cases hq:w64 (z.Border.a2+z.Padding.a2) == 0<;>simp
theorem clone_def (K:Kn) (n:Nat) (l:List aa) (hl:l.length≤20):jg K n l=some l:=by
  unfold jg both
  have hf:fits (([]:List aa).length+l.length) 584=true:=by rw [List.length_nil,Nat.zero_add]; exact cg (by omega) (by omega)
  rw [hf]
  cases l<;>simp [bB]
theorem stack_mb4 (K:Kn) (n:Nat) (L:List aa) (hL:∀ f∈L,MB f):∀ (m:Nat) (i h:Int) (b:ah) (t:Bool) (mm:ah) (l:List aa) {r:(List aa)×Int×ah×ah×Bool},mbM b→mbM mm→fa K n L m h t i b mm l=some r→mbM r.2.2.1∧mbM r.2.2.2.1:=by
  intro m
  induction m with
  | zero=>intro i h b t mm l r hb hm e; cases e
  | succ m ih =>
    intro i h b t mm l r hb hm e
    simp only [fa,iE] at e
    by_cases hi:i<(L.length:Int)
    · simp only [hi,decide_true,if_true] at e
      obtain ⟨hin,e⟩:=aq e
      obtain ⟨h0,h1⟩:=aH hin
      have hf:=hL _ (dG h1)
      have hj:mbM ⟨max mm.Pos (L.getD i.toNat default).Before.Pos,min mm.Neg (L.getD i.toNat default).Before.Neg⟩:=by
        have:=hf.1
        unfold mbM at *
        dsimp only; omega
      simp only [eX,dc,Option.bind_some,iq,ij,ir] at e
      generalize hx:L.getD i.toNat default=x at *
      cases he:x.Empty<;>cases t<;>simp only [he,Bool.not_true,Bool.not_false,Bool.false_eq_true,if_true,if_false] at e<;>have e:=(aq e).2
      · exact ih _ _ _ _ _ _ hb hf.2 e
      · exact ih _ _ _ _ _ _ hj hf.2 e
      · exact ih _ _ _ _ _ _ hb hj e
      · exact ih _ _ _ _ _ _ hb hj e
    · simp only [hi,decide_false,Bool.false_eq_true,if_false,iw] at e
      split at e<;>(injection e with e; subst e)<;>first | exact ⟨hm,hm⟩ | exact ⟨hb,hm⟩
theorem stack_mb (K:Kn) (n:Nat) (L:List aa) (hL:∀ f∈L,MB f) {r:(List aa)×Int×ah×ah×Bool} (h:gQ K n L=some r):mbM r.2.2.1∧mbM r.2.2.2.1 :=
  stack_mb4 K n L hL n _ _ _ _ _ _ (by decide) (by decide) h
theorem core (d N:Nat) (b:ab) (z:ay) (share:Bool) (hg:GoodB (d+1) b) (hN:20<N) (env:bw) (he:env.Layout=(Fv.fn 54)∧env.Lines=(Fv.fn 56))
    (ih:∀ k,GoodB d k→∃ f,(KN (N+1)).dD (Fv.fn 54) k z.Content=some f∧(KN (N+1)).dq k z.Content=some f∧Fd (d+1) f∧MB f) :
    ∃ f,lB (KN (N+1)) (N+1) b z (aboveM b z share) (belowM b z share) env=some f∧kR (KN (N+1)) (N+1) b z share=some f∧Fd (d+2) f∧(share=false→f.Empty=false∧f.Before=ofM z.Margin.a0∧f.After=ofM z.Margin.a2)∧(zmb z→MB f):=by
  have hO:∀ x,(KN (N+1)).fr (Fv.fn 111) x=some (outerM x):=fun x=>ut (KN N) N x
  have hlen:b.Kids.length≤20:=hg.1
  have hfl:(flowM b).length≤20:=Nat.le_trans tD hlen
  have hsub:∀ k∈flowM b,k∈b.Kids:=fun k hk=>(List.mem_filter.1 hk).1
  have hany:((flowM b).any fun k=>k.Kind == 1)=(flowM b).any outerM:=by
    apply Bool.eq_iff_iff.2
    simp only [List.any_eq_true]
    constructor
    · rintro ⟨k,hk,e⟩; exact ⟨k,hk,by simp [outerM,e]⟩
    · rintro ⟨k,hk,e⟩
      refine ⟨k,hk,?_⟩
      rcases hg.2 with h | h
      · simp [(h k (hsub k hk)).1]
      · have:=h k (hsub k hk); simp [outerM,this] at e
  unfold lB kR
  rw [bflow_def _ _ hO b hlen (by omega),router_def _ _ b hlen (by omega),uA _ _ b hlen (by omega),hany]
  simp only [Option.bind_some]
  rw [show w64 (w64 (w64 (w64 (z.Content+z.Border.a1)+z.Border.a3)+z.Padding.a1)+z.Padding.a3)=refW z from rfl]
  have fin:∀ (L:List aa) (bl:Bool) (h:Int) (th:Bool) (bf af:ah),bl=(flowM b).any outerM→L.length≤20→(bl=true→(flowM b).length=L.length∧∀ k∈flowM b,outerM k=true)→(∀ f∈L,Fd (d+1) f)→mbM bf→mbM af →
      ∃ f,gt (KN (N+1)) (N+1) b z (aboveM b z share) (belowM b z share) (flowM b,(flowM b).any outerM) h th bf af L=some f∧gj (KN (N+1)) (N+1) b z share (refW z) bl h bf af th L=some f∧Fd (d+2) f∧(share=false→f.Empty=false∧f.Before=ofM z.Margin.a0∧f.After=ofM z.Margin.a2)∧(zmb z→MB f):=by
    intro L bl h th bf af hbl hL ho hk hmb hma
    subst hbl
    obtain ⟨d',e,f,g,x,h1,h2,h3,h5⟩:=j5_eq (KN (N+1)) (N+1) (by omega) b z L hL (flowM b,(flowM b).any outerM) ho (aboveM b z share) (belowM b z share) h th bf af
    refine ⟨_,h1,(rj2 _ _ _ _ _ _ _ _ _ _ _).trans h2,⟨?_,?_⟩,fun hs=>?_,fun hz=>h5 hmb hma hz⟩
    · simpa [finM] using hL
    · intro k hkk
      obtain ⟨y,hy,rfl⟩:=List.mem_map.1 hkk
      exact qw (kidM_kids _ _ _ _) (hk y hy)
    · subst hs; exact h3 rfl rfl
  cases hb:(flowM b).any outerM with
  | true =>
    have hall:∀ k∈b.Kids,k.Kind=1∧GoodB d k:=by
      rcases hg.2 with h | h
      · exact h
      · obtain ⟨k,hk,e⟩:=List.any_eq_true.1 hb
        have:=h k (hsub k hk); simp [outerM,this] at e
    have hF:∀ k∈flowM b,(KN (N+1)).dD env.Layout k z.Content=some (((KN (N+1)).dq k z.Content).getD default)∧(KN (N+1)).dq k z.Content=some (((KN (N+1)).dq k z.Content).getD default)∧Fd (d+1) (((KN (N+1)).dq k z.Content).getD default)∧MB (((KN (N+1)).dq k z.Content).getD default):=fun k hk=>by
      obtain ⟨f,h1,h2,h3⟩:=ih k (hall k (hsub k hk)).2
      rw [he.1,h1,h2]
      exact ⟨rfl,rfl,h3⟩
    simp only [if_true]
    have e1:=bl1_loop (KN (N+1)) (N+1) b z (aboveM b z share) (belowM b z share) env (flowM b,true) (fun k=>((KN (N+1)).dq k z.Content).getD default) hfl (fun k hk=>(hF k hk).1) (N+1) 0 [] (by omega) (by simp only []; omega) (by simp)
    have e2:=rl1_loop (KN (N+1)) (N+1) b z share true (flowM b) (fun k=>((KN (N+1)).dq k z.Content).getD default) hfl (fun k hk=>(hF k hk).2.1) (N+1) 0 [] (by omega) (by omega) (by simp)
    simp only [List.nil_append,List.drop_zero] at e1 e2
    obtain ⟨r,hr,hrl,hrk⟩:=stack_tot (KN (N+1)) (N+1) ((flowM b).map fun k=>((KN (N+1)).dq k z.Content).getD default) (by simp; omega) (by simp; omega)
    rw [show iU (KN (N+1)) (N+1) b z (aboveM b z share) (belowM b z share) env (flowM b,true) (N+1) 0 []=_ from e1,show jI (KN (N+1)) (N+1) b z share (refW z) true (flowM b) (N+1) 0 []=_ from e2,stack_eq,hr]
    simp only [Option.bind_some,Option.map_some,placedOf]
    rw [List.length_map] at hrl
    have:=fin r.1 true r.2.1 r.2.2.2.2 r.2.2.1 r.2.2.2.1 hb.symm (by omega) (fun _=>⟨by omega,fun k hk=>by simp [outerM,(hall k (hsub k hk)).1]⟩) (fun f hf=>by
      obtain ⟨g,hg',e⟩:=hrk f hf
      obtain ⟨k,hk,rfl⟩:=List.mem_map.1 hg'
      exact qw e (hF k hk).2.2.1) (stack_mb _ _ _ (fun f hf=>by
      obtain ⟨k,hk,rfl⟩:=List.mem_map.1 hf
      exact (hF k hk).2.2.2) hr).1 (stack_mb _ _ _ (fun f hf=>by
      obtain ⟨k,hk,rfl⟩:=List.mem_map.1 hf
      exact (hF k hk).2.2.2) hr).2
    rw [hb] at this
    exact this
  | false =>
    simp only [Bool.false_eq_true,if_false]
    have hLn:(KN (N+1)).iX env.Lines (flowM b) b.Style z.Content=some (linesM b.Style z.Content (flowM b) 0 []):=by
      rw [he.2]; exact lines_def (KN N) N (flowM b) b.Style z.Content hfl hN
    obtain ⟨l1,l2⟩:=tV b.Style z.Content (flowM b) 0 [] (by simp)
    simp only [List.length_nil,Nat.zero_add] at l1
    have hcl:jg (KN (N+1)) (N+1) (linesM b.Style z.Content (flowM b) 0 []).1=some (linesM b.Style z.Content (flowM b) 0 []).1:=by
      exact clone_def _ _ _ (by omega)
    rw [hLn,lines_def _ _ (flowM b) b.Style z.Content hfl (by omega)]
    simp only [Option.bind_some,hcl]
    have:=fin (linesM b.Style z.Content (flowM b) 0 []).1 false (linesM b.Style z.Content (flowM b) 0 []).2 (((linesM b.Style z.Content (flowM b) 0 []).1.length:Int) == 0) cR cR hb.symm (by omega) (fun h=>by cases h) (fun f hf=>Fd_leaf (l2 f hf)) (by decide) (by decide)
    rw [hb] at this
    exact this
theorem used_edges (s:aE) (w:Int):(usedM s w).Border=(edgesM s (limM w) 0).Border∧(usedM s w).Padding=(edgesM s (limM w) 0).Padding:=by
  unfold usedM used1
  simp only []
  repeat (first | exact ⟨rfl,rfl⟩ | split)
theorem cV (l:aQ) (b:Int) : -1048576≤(lenM l b).1∧(lenM l b).1≤1048576:=by
  unfold lenM; split
  · simp only []; omega
  · split<;>simp only []<;>omega
theorem used_mb (s:aE) (w:Int):zmb (usedM s w):=by
  have e:(usedM s w).Margin.a0=(lenM s.Margin.a0 (limM w)).1∧(usedM s w).Margin.a2=(lenM s.Margin.a2 (limM w)).1:=by
    unfold usedM used1
    simp only []
    repeat (first | exact ⟨rfl,rfl⟩ | split)
  have h0:=cV s.Margin.a0 (limM w); have h2:=cV s.Margin.a2 (limM w)
  unfold zmb
  rw [e.1,e.2]; omega
theorem lay_eq:∀ (d N:Nat) (b:ab) (w:Int),GoodB d b→d+25≤N→∃ f,gf (KN N) N b w ⟨(Fv.fn 54),(Fv.fn 55),(Fv.fn 56),(Fv.fn 57)⟩=some f∧eY (KN N) N b w=some f∧Fd (d+1) f∧MB f
  | 0,_,_,_,h,_=>h.elim
  | d+1,0,_,_,_,h=>by omega
  | d+1,N+1,b,w,hg,hN=>by
    obtain ⟨f,h1,h2,h3,_,h4⟩:=core d N b (usedM b.Style w) true hg (by omega) ⟨(Fv.fn 54),(Fv.fn 55),(Fv.fn 56),(Fv.fn 57)⟩ ⟨rfl,rfl⟩ (fun k hk=>by
      obtain ⟨f,h1,h2,h3⟩:=lay_eq d N k (usedM b.Style w).Content hk (by omega)
      refine ⟨f,?_,h2,h3⟩
      show fF (KN N) N k (usedM b.Style w).Content=some f
      unfold fF ff
      simp only [Option.bind_some,h1])
    refine ⟨f,?_,?_,h3,h4 (used_mb _ _)⟩
    · unfold gf
      simp only [used_def,Option.bind_some,jH,gU]
      obtain ⟨u1,u2⟩:=used_edges b.Style w
      have hb0:0≤(usedM b.Style w).Border.a0∧(usedM b.Style w).Border.a0≤1048576:=by rw [u1]; simp only [edgesM,limM]; omega
      have hb2:0≤(usedM b.Style w).Border.a2∧(usedM b.Style w).Border.a2≤1048576:=by rw [u1]; simp only [edgesM,limM]; omega
      have hp0:0≤(usedM b.Style w).Padding.a0∧(usedM b.Style w).Padding.a0≤1048576:=by rw [u2]; simp only [edgesM]; have:=cV b.Style.Padding.a0 (limM w); omega
      have hp2:0≤(usedM b.Style w).Padding.a2∧(usedM b.Style w).Padding.a2≤1048576:=by rw [u2]; simp only [edgesM]; have:=cV b.Style.Padding.a2 (limM w); omega
      have e0:(w64 ((usedM b.Style w).Border.a0+(usedM b.Style w).Padding.a0) == 0)=((usedM b.Style w).Border.a0 == 0 && (usedM b.Style w).Padding.a0 == 0):=by
        rw [bp (by omega) (by omega)]; apply Bool.eq_iff_iff.2; simp only [Bool.and_eq_true,beq_iff_eq]; omega
      have e2:(w64 ((usedM b.Style w).Border.a2+(usedM b.Style w).Padding.a2) == 0)=((usedM b.Style w).Border.a2 == 0 && (usedM b.Style w).Padding.a2 == 0):=by
        rw [bp (by omega) (by omega)]; apply Bool.eq_iff_iff.2; simp only [Bool.and_eq_true,beq_iff_eq]; omega
      unfold aboveM belowM at h1
      rw [e0,e2] at h1
      cases ho:b.Style.Overflow == 0<;>cases q0:(usedM b.Style w).Border.a0 == 0<;>cases q2:(usedM b.Style w).Border.a2 == 0<;>cases q3:(usedM b.Style w).Padding.a2 == 0<;>rw [ho,q0,q2,q3] at h1<;>simp only [Bool.true_and,Bool.false_and,Bool.and_true,Bool.and_false,Bool.false_eq_true,if_true,if_false] at h1 ⊢<;>rw [h1]<;>rfl
    · unfold eY
      simp only [rused_def,Option.bind_some,h2]
end Go.Proofs.Ytlpndemhnpajiaa
namespace Go.Proofs.Ytlpndemhnpajiaa
set_option linter.all false
open Go.RowKit
def TB:Nat→ab→Prop
  | 0,_=>False
  | d+1,b=>∀ k∈b.Kids,(k.Kind=1→TB d k)∧(k.Kind=3→(k.Text.size:Int)≤60)
theorem treeT_loop (N n:Nat) (L:List bU) (hL:L.length≤20) (hT:∀ x∈L,(x.Text.size:Int)≤60) (a:Nat) (v3:Bool) (d:Nat) (ih:v3=true→∀ i,a<i→i<L.length→∃ b i',(KN N).ox L (i:Int)=some (b,((i':Nat):Int))∧i<i'∧i'≤L.length∧GoodB d b∧b.Kind=1∧TB d b) :
    ∀ (m i:Nat) (acc:List ab),a<i→i≤L.length→L.length<m+i→acc.length+a<i→(v3=true→∀ k∈acc,k.Kind=1∧GoodB d k∧TB d k)→(v3=false→∀ k∈acc,k.Kind=3∧(k.Text.size:Int)≤60) →
      ∃ b i',fT (KN N) n L a v3 m i acc=some (b,((i':Nat):Int))∧a<i'∧i'≤L.length∧GoodB (d+1) b∧b.Kind=1∧TB (d+1) b:=by
  intro m
  induction m with
  | zero=>intro i acc _ h1 h2; omega
  | succ m ihm =>
    intro i acc h0 h1 h2 h3 hk1 hk3
    have stop:∃ b i',gT (KN N) n L a v3 i acc (fT (KN N) n L a v3 m) false=some (b,((i':Nat):Int))∧a<i'∧i'≤L.length∧GoodB (d+1) b∧b.Kind=1∧TB (d+1) b:=by
      simp only [gT,Bool.false_eq_true,if_false]
      refine ⟨_,i,rfl,h0,h1,⟨by show acc.length≤20; omega,?_⟩,rfl,?_⟩
      · cases v3 with
        | true=>exact .inl fun k hk=>⟨(hk1 rfl k hk).1,(hk1 rfl k hk).2.1⟩
        | false=>exact .inr fun k hk=>(hk3 rfl k hk).1
      · intro k hk
        cases v3 with
        | true =>
          have h:=hk1 rfl k hk
          exact ⟨fun _=>h.2.2,fun e=>by rw [h.1] at e; exact absurd e (by decide)⟩
        | false =>
          have h:=hk3 rfl k hk
          exact ⟨fun e=>by rw [h.1] at e; exact absurd e (by decide),fun _=>h.2⟩
    simp only [fT,qn]
    by_cases hi:i<L.length
    · simp only [d6 hi,if_true,inbN hi,bB]
      cases hd:decide ((L.getD (i:Int).toNat default).Depth>(L.getD (a:Int).toNat default).Depth) with
      | false=>exact stop
      | true =>
        simp only [gT,if_true]
        cases v3 with
        | true =>
          obtain ⟨b,i',e1,e2,e3,e4,e5,e6⟩:=ih rfl i h0 hi
          simp only [if_true,e1,Option.bind_some,List.length_cons,List.length_nil]
          rw [cg (by omega) (by omega),bB]
          exact ihm i' (acc++[b]) (by omega) e3 (by omega) (by simp; omega) (fun _ k hk=>by
            rcases List.mem_append.1 hk with hk | hk
            · exact hk1 rfl k hk
            · simp only [List.mem_cons,List.not_mem_nil,or_false] at hk; subst hk; exact ⟨e5,e4,e6⟩) (fun h=>by cases h)
        | false =>
          simp only [Bool.false_eq_true,if_false,inbN hi,bB,List.length_cons,List.length_nil,step64 (show i<1000000 by omega)]
          rw [cg (by omega) (by omega),bB]
          exact ihm (i+1) _ (by omega) (by omega) (by omega) (by simp; omega) (fun h=>by cases h) (fun _ k hk=>by
            rcases List.mem_append.1 hk with hk | hk
            · exact hk3 rfl k hk
            · simp only [List.mem_cons,List.not_mem_nil,or_false] at hk; subst hk; exact ⟨rfl,hT _ (by simpa using dG hi)⟩)
    · simp only [dY (show L.length≤i by omega),Bool.false_eq_true,if_false]
      exact stop
theorem treeT:∀ (d N:Nat) (L:List bU) (a:Nat),a<L.length→L.length - a≤d→L.length≤20→d+25≤N→(∀ x∈L,(x.Text.size:Int)≤60)→∃ b i',mZ (KN N) N L (a:Int)=some (b,((i':Nat):Int))∧a<i'∧i'≤L.length∧GoodB d b∧b.Kind=1∧TB d b
  | 0,_,_,_,_,_,_,_,_=>by omega
  | d+1,0,_,_,_,_,_,h,_=>by omega
  | d+1,N+1,L,a,h1,h2,hL,hN,hT=>by
    have lp:∀ v3:Bool,∃ b i',fT (KN (N+1)) (N+1) L a v3 (N+1) ((a+1:Nat):Int) []=some (b,((i':Nat):Int))∧a<i'∧i'≤L.length∧GoodB (d+1) b∧b.Kind=1∧TB (d+1) b:=fun v3 =>
      treeT_loop (N+1) (N+1) L hL hT a v3 d (fun _ i h3 h4=>treeT d N L i h4 (by omega) hL (by omega) hT) (N+1) (a+1) [] (by omega) (by omega) (by omega) (by simp) (fun _ k hk=>by cases hk) (fun _ k hk=>by cases hk)
    unfold mZ
    simp only [inbN h1,bB,step64 (show a<1000000 by omega),mw]
    by_cases hi:a+1<L.length
    · simp only [d6 hi,if_true,inbN hi,bB]
      split
      · exact lp _
      · exact lp _
    · simp only [dY (show L.length≤a+1 by omega),Bool.false_eq_true,if_false]
      exact lp _
def autoM (l:aQ):aQ:=if l.Kind=2 then bz else l
def plainM (s:aE):aE:={ s with Width:=autoM s.Width,MinWidth:=autoM s.MinWidth,MaxWidth:=autoM s.MaxWidth,Margin:=⟨autoM s.Margin.a0,autoM s.Margin.a1,autoM s.Margin.a2,autoM s.Margin.a3⟩,Padding:=⟨autoM s.Padding.a0,autoM s.Padding.a1,autoM s.Padding.a2,autoM s.Padding.a3⟩ }
section
variable (K:Kn) (n:Nat)
theorem auto_def (l:aQ):du K n l=some (autoM l):=by
  unfold du autoM
  by_cases h:l.Kind=2<;>simp [h]
theorem plain_def (s:aE):kQ K n s=some (plainM s):=by
  simp only [kQ,auto_def,Option.bind_some,plainM]
theorem gw {α:Type} (l:aQ) (f:aQ→α) (y:α) (hy:y=f l):(if (l.Kind == 2)=true then f bz else y)=f (autoM l):=by
  unfold autoM
  by_cases h:l.Kind=2
  · simp [h]
  · simp [h,hy]
theorem uQ (s:aE):jr K n s=some (plainM s):=by
  unfold jr
  refine (gw s.Width (fun l=>jT K n { s with Width:=l }) _ rfl).trans ?_
  unfold jT
  refine (gw s.MinWidth (fun l=>iZ K n { s with Width:=autoM s.Width,MinWidth:=l }) _ rfl).trans ?_
  unfold iZ
  refine (gw s.MaxWidth (fun l=>jV K n { s with Width:=autoM s.Width,MinWidth:=autoM s.MinWidth,MaxWidth:=l }) _ rfl).trans ?_
  unfold jV
  refine (gw s.Margin.a0 (fun l=>iS K n { s with Width:=autoM s.Width,MinWidth:=autoM s.MinWidth,MaxWidth:=autoM s.MaxWidth,Margin:=⟨l,s.Margin.a1,s.Margin.a2,s.Margin.a3⟩ }) _ rfl).trans ?_
  unfold iS
  refine (gw s.Padding.a0 (fun l=>jA K n { s with Width:=autoM s.Width,MinWidth:=autoM s.MinWidth,MaxWidth:=autoM s.MaxWidth,Margin:=⟨autoM s.Margin.a0,s.Margin.a1,s.Margin.a2,s.Margin.a3⟩,Padding:=⟨l,s.Padding.a1,s.Padding.a2,s.Padding.a3⟩ }) _ rfl).trans ?_
  unfold jA
  refine (gw s.Margin.a1 (fun l=>je K n { s with Width:=autoM s.Width,MinWidth:=autoM s.MinWidth,MaxWidth:=autoM s.MaxWidth,Margin:=⟨autoM s.Margin.a0,l,s.Margin.a2,s.Margin.a3⟩,Padding:=⟨autoM s.Padding.a0,s.Padding.a1,s.Padding.a2,s.Padding.a3⟩ }) _ rfl).trans ?_
  unfold je
  refine (gw s.Padding.a1 (fun l=>jS K n { s with Width:=autoM s.Width,MinWidth:=autoM s.MinWidth,MaxWidth:=autoM s.MaxWidth,Margin:=⟨autoM s.Margin.a0,autoM s.Margin.a1,s.Margin.a2,s.Margin.a3⟩,Padding:=⟨autoM s.Padding.a0,l,s.Padding.a2,s.Padding.a3⟩ }) _ rfl).trans ?_
  unfold jS
  refine (gw s.Margin.a2 (fun l=>jF K n { s with Width:=autoM s.Width,MinWidth:=autoM s.MinWidth,MaxWidth:=autoM s.MaxWidth,Margin:=⟨autoM s.Margin.a0,autoM s.Margin.a1,l,s.Margin.a3⟩,Padding:=⟨autoM s.Padding.a0,autoM s.Padding.a1,s.Padding.a2,s.Padding.a3⟩ }) _ rfl).trans ?_
  unfold jF
  refine (gw s.Padding.a2 (fun l=>ja K n { s with Width:=autoM s.Width,MinWidth:=autoM s.MinWidth,MaxWidth:=autoM s.MaxWidth,Margin:=⟨autoM s.Margin.a0,autoM s.Margin.a1,autoM s.Margin.a2,s.Margin.a3⟩,Padding:=⟨autoM s.Padding.a0,autoM s.Padding.a1,l,s.Padding.a3⟩ }) _ rfl).trans ?_
  unfold ja
  refine (gw s.Margin.a3 (fun l=>jn K n { s with Width:=autoM s.Width,MinWidth:=autoM s.MinWidth,MaxWidth:=autoM s.MaxWidth,Margin:=⟨autoM s.Margin.a0,autoM s.Margin.a1,autoM s.Margin.a2,l⟩,Padding:=⟨autoM s.Padding.a0,autoM s.Padding.a1,autoM s.Padding.a2,s.Padding.a3⟩ }) _ rfl).trans ?_
  unfold jn
  refine (gw s.Padding.a3 (fun l=>l0 K n { s with Width:=autoM s.Width,MinWidth:=autoM s.MinWidth,MaxWidth:=autoM s.MaxWidth,Margin:=⟨autoM s.Margin.a0,autoM s.Margin.a1,autoM s.Margin.a2,autoM s.Margin.a3⟩,Padding:=⟨autoM s.Padding.a0,autoM s.Padding.a1,autoM s.Padding.a2,l⟩ }) _ rfl).trans ?_
  rfl
def spM:List ab→Int→Int→Int×Int
  | [],a,b=>(a,b)
  | k::r,a,b=>spM r (max a (w64 (8*(k.Text.size:Int)))) (w64 (b+w64 (8*(k.Text.size:Int))))
theorem spread_loop (L:List ab) (hL:L.length≤20):∀ (m i:Nat) (a b:Int),i≤L.length→L.length<m+i→ki K n L m a b i=some (spM (L.drop i) a b):=by
  intro m
  induction m with
  | zero=>intro i a b h1 h2; omega
  | succ m ih =>
    intro i a b h1 h2
    simp only [ki,kv]
    by_cases hi:i<L.length
    · rw [drop_at' hi]
      simp only [d6 hi,if_true,inbN hi,bB,Int.toNat_natCast,step64 (show i<1000000 by omega),spM]
      exact ih (i+1) _ _ (by omega) (by omega)
    · have e:i=L.length:=by omega
      subst e
      simp only [dY (Nat.le_refl _),Bool.false_eq_true,if_false,List.drop_length,spM]
theorem spread_def (L:List ab) (s:aE) (hL:L.length≤20) (hn:20<n):fP K n L s=some (spM L 0 0) :=
  (spread_loop K n L hL n 0 0 0 (by omega) (by omega)).trans (by simp only [List.drop_zero])
theorem spM_le:∀ (L:List ab) (a b:Int),(∀ k∈L,(k.Text.size:Int)≤60)→0≤a→a≤b→b+480*L.length≤1099511627776→(spM L a b).1≤(spM L a b).2
  | [],a,b,_,_,h,_=>h
  | k::r,a,b,hk,h0,h1,h2=>by
    have h3:=hk k (List.mem_cons_self ..)
    simp only [List.length_cons] at h2
    unfold spM
    rw [bp (n:=8*(k.Text.size:Int)) (by omega) (by omega),bp (n:=b+8*(k.Text.size:Int)) (by omega) (by omega)]
    exact spM_le r _ _ (fun k h=>hk k (List.mem_cons_of_mem _ h)) (by omega) (by omega) (by omega)
def wiM (W:ab→Int×Int):List ab→Int→Int→Int×Int
  | [],a,b=>(a,b)
  | k::r,a,b=>wiM W r (max a (W k).1) (max b (W k).2)
theorem wiM_le (W:ab→Int×Int):∀ (L:List ab) (a b:Int),(∀ k∈L,(W k).1≤(W k).2)→a≤b→(wiM W L a b).1≤(wiM W L a b).2
  | [],a,b,_,h=>h
  | k::r,a,b,hk,h=>by
    have:=hk k (List.mem_cons_self ..)
    unfold wiM
    exact wiM_le W r _ _ (fun k h=>hk k (List.mem_cons_of_mem _ h)) (by omega)
theorem inside_wloop (env:bw) (v6:(List ab)×Bool) (W:ab→Int×Int) (hL:v6.1.length≤20) (hW:∀ k∈v6.1,K.eM env.Widths k=some (W k)):∀ (m i:Nat) (a b:Int),i≤v6.1.length→v6.1.length<m+i →
    jU K n env v6 m a b i=some (limM (wiM W (v6.1.drop i) a b).1,limM (wiM W (v6.1.drop i) a b).2):=by
  intro m
  induction m with
  | zero=>intro i a b h1 h2; omega
  | succ m ih =>
    intro i a b h1 h2
    simp only [jU,kt]
    by_cases hi:i<v6.1.length
    · rw [drop_at' hi]
      simp only [d6 hi,if_true,inbN hi,bB,Int.toNat_natCast,step64 (show i<1000000 by omega),hW _ (dG hi),Option.bind_some,wiM]
      exact ih (i+1) _ _ (by omega) (by omega)
    · have e:i=v6.1.length:=by omega
      subst e
      simp only [dY (Nat.le_refl _),Bool.false_eq_true,if_false,List.drop_length,wiM,ro,Option.bind_some]
theorem contents_loop (L:List ab) (W:ab→Int×Int) (hL:L.length≤20) (hW:∀ k∈L,K.gJ k=some (W k)):∀ (m i:Nat) (a b:Int),i≤L.length→L.length<m+i →
    i9 K n L m a b i=some (limM (wiM W (L.drop i) a b).1,limM (wiM W (L.drop i) a b).2):=by
  intro m
  induction m with
  | zero=>intro i a b h1 h2; omega
  | succ m ih =>
    intro i a b h1 h2
    simp only [i9,lZ]
    by_cases hi:i<L.length
    · rw [drop_at' hi]
      simp only [d6 hi,if_true,inbN hi,bB,Int.toNat_natCast,step64 (show i<1000000 by omega),hW _ (dG hi),Option.bind_some,wiM]
      exact ih (i+1) _ _ (by omega) (by omega)
    · have e:i=L.length:=by omega
      subst e
      simp only [dY (Nat.le_refl _),Bool.false_eq_true,if_false,List.drop_length,wiM,rT,Option.bind_some]
def frM (s:aE) (c:Int):Int:=sumM (edgesM (plainM s) 0 (clampM (plainM s) 0 c))
theorem sum_split (s:aE) (c:Int):sumM (edgesM s 0 c)=w64 (c+sumM (edgesM s 0 0)):=by
  unfold sumM edgesM
  simp only []
  apply w64_eq
  have w:=fy
  generalize (lenM s.Margin.a1 0).1=m1
  generalize (lenM s.Margin.a3 0).1=m3
  generalize limM s.Border.a1=b1
  generalize limM s.Border.a3=b3
  generalize max (lenM s.Padding.a1 0).1 0=p1
  generalize max (lenM s.Padding.a3 0).1 0=p3
  have h1:=w (c+m1); have h2:=w (w64 (c+m1)+m3); have h3:=w (w64 (w64 (c+m1)+m3)+b1); have h4:=w (w64 (w64 (w64 (c+m1)+m3)+b1)+b3); have h5:=w (w64 (w64 (w64 (w64 (c+m1)+m3)+b1)+b3)+p1)
  have g1:=w (0+m1); have g2:=w (w64 (0+m1)+m3); have g3:=w (w64 (w64 (0+m1)+m3)+b1); have g4:=w (w64 (w64 (w64 (0+m1)+m3)+b1)+b3); have g5:=w (w64 (w64 (w64 (w64 (0+m1)+m3)+b1)+b3)+p1); have g6:=w (w64 (w64 (w64 (w64 (w64 (0+m1)+m3)+b1)+b3)+p1)+p3)
  omega
theorem frM_le (s:aE) {c c':Int} (h:c≤c') (hc:c'≤1048576):frM s c≤frM s c':=by
  unfold frM
  generalize plainM s=t
  have hm:clampM t 0 c≤clampM t 0 c'∧0≤clampM t 0 c:=by
    unfold clampM
    simp only []
    split<;>split<;>omega
  have hbd:∀ x,clampM t 0 x≤max (max x 0) 1048576:=fun x=>by
    have:=cV t.MinWidth 0
    unfold clampM
    simp only []
    split<;>split<;>omega
  have b2:=hbd c'
  have e1:=cV t.Margin.a1 0; have e2:=cV t.Margin.a3 0; have e3:=cV t.Padding.a1 0; have e4:=cV t.Padding.a3 0
  have q1:0≤limM t.Border.a1∧limM t.Border.a1≤1048576:=by unfold limM; omega
  have q3:0≤limM t.Border.a3∧limM t.Border.a3≤1048576:=by unfold limM; omega
  have ex:∀ x,0≤x→x≤1048576→sumM (edgesM t 0 x)=x+(lenM t.Margin.a1 0).1+(lenM t.Margin.a3 0).1+limM t.Border.a1+limM t.Border.a3+max (lenM t.Padding.a1 0).1 0+max (lenM t.Padding.a3 0).1 0:=fun x h0 h1=>by
    unfold sumM edgesM
    simp only []
    rw [bp (n:=x+(lenM t.Margin.a1 0).1) (by omega) (by omega),bp (n:=x+(lenM t.Margin.a1 0).1+(lenM t.Margin.a3 0).1) (by omega) (by omega),bp (n:=x+(lenM t.Margin.a1 0).1+(lenM t.Margin.a3 0).1+limM t.Border.a1) (by omega) (by omega),bp (n:=x+(lenM t.Margin.a1 0).1+(lenM t.Margin.a3 0).1+limM t.Border.a1+limM t.Border.a3) (by omega) (by omega),bp (n:=x+(lenM t.Margin.a1 0).1+(lenM t.Margin.a3 0).1+limM t.Border.a1+limM t.Border.a3+max (lenM t.Padding.a1 0).1 0) (by omega) (by omega),bp (by omega) (by omega)]
  rw [ex _ hm.2 (by omega),ex _ (by omega) (by omega)]
  omega
end
end Go.Proofs.Ytlpndemhnpajiaa
namespace Go.Proofs.Ytlpndemhnpajiaa.Wd
set_option linter.all false
open Go.RowKit
def E1:bw:=⟨(Fv.fn 54),(Fv.fn 55),(Fv.fn 56),(Fv.fn 57)⟩
theorem lim_lim (x:Int):limM (limM x)=limM x:=by unfold limM; omega
theorem cY (x:Int):0≤limM x∧limM x≤1048576:=by unfold limM; omega
theorem len2 (l:aQ) (w:Int):(lenM l w).2=(l.Kind == 1 || l.Kind == 2):=by
  unfold lenM
  by_cases h1:l.Kind=1
  · simp [h1]
  · by_cases h2:l.Kind=2<;>simp [h1,h2]
theorem auto2 (l:aQ):(autoM l).Kind≠2:=by
  unfold autoM
  by_cases h:l.Kind=2
  · rw [if_pos h]; exact fun h=>by cases h
  · rw [if_neg h]; exact h
structure Cn (N:Nat) (b:ab) (x y:Int):Prop where
  le:x≤y
  lx:limM x=x
  ly:limM y=y
  c:iz (KN N) N b=some (x,y)
  i:gm (KN N) N b E1=some (if (lenM (plainM b.Style).Width 0).2=true then (limM (lenM (plainM b.Style).Width 0).1,limM (lenM (plainM b.Style).Width 0).1) else (x,y))
theorem core (d N:Nat) (b:ab) (hg:GoodB (d+1) b) (ht:TB (d+1) b) (hN:20<N)
    (ih:∀ k∈b.Kids,k.Kind=1→∃ p,(KN (N+1)).eM (Fv.fn 55) k=some p∧(KN (N+1)).gJ k=some p∧p.1≤p.2):∃ x y,Cn (N+1) b x y:=by
  have hO:∀ x,(KN (N+1)).fr (Fv.fn 111) x=some (outerM x):=fun x=>ut (KN N) N x
  have hlen:b.Kids.length≤20:=hg.1
  have hfl:(flowM b).length≤20:=Nat.le_trans tD hlen
  have hsub:∀ k∈flowM b,k∈b.Kids:=fun k hk=>(List.mem_filter.1 hk).1
  have hany:((flowM b).any fun k=>k.Kind == 1)=(flowM b).any outerM:=by
    apply Bool.eq_iff_iff.2
    simp only [List.any_eq_true]
    constructor
    · rintro ⟨k,hk,e⟩; exact ⟨k,hk,by simp [outerM,e]⟩
    · rintro ⟨k,hk,e⟩
      refine ⟨k,hk,?_⟩
      rcases hg.2 with h | h
      · simp [(h k (hsub k hk)).1]
      · have:=h k (hsub k hk); simp [outerM,this] at e
  have fin:∀ x y:Int,x≤y→iz (KN (N+1)) (N+1) b=some (limM x,limM y)→(¬ (lenM (plainM b.Style).Width 0).2=true→gm (KN (N+1)) (N+1) b E1=some (limM x,limM y))→∃ x y,Cn (N+1) b x y:=by
    intro x y hxy h1 h2
    refine ⟨limM x,limM y,by unfold limM; omega,lim_lim x,lim_lim y,h1,?_⟩
    split
    · rename_i hw
      unfold gm
      rw [uQ]
      simp only [Option.bind_some,eT,hw,if_true,ro]
    · rename_i hw; exact h2 hw
  have ins:¬ (lenM (plainM b.Style).Width 0).2=true→gm (KN (N+1)) (N+1) b E1=(if (!((flowM b).any outerM))=true then (fP (KN N) N (flowM b) b.Style).bind fun v7=>some (limM v7.1,limM v7.2) else jU (KN (N+1)) (N+1) E1 (flowM b,(flowM b).any outerM) (N+1) 0 0 0):=fun hw=>by
    unfold gm
    rw [uQ]
    simp only [Option.bind_some,eT,hw,Bool.false_eq_true,if_false]
    rw [bflow_def _ _ hO b hlen (by omega)]
    simp only [Option.bind_some,ro]
    rfl
  have con:iz (KN (N+1)) (N+1) b=(if (!((flowM b).any outerM))=true then (fP (KN (N+1)) (N+1) (flowM b) b.Style).bind fun v7=>some (limM v7.1,limM v7.2) else i9 (KN (N+1)) (N+1) (flowM b) (N+1) 0 0 0):=by
    unfold iz
    rw [router_def _ _ b hlen (by omega),uA _ _ b hlen (by omega),hany]
    simp only [Option.bind_some,rT]
  cases hb:(flowM b).any outerM with
  | true =>
    rw [hb] at ins con
    simp only [Bool.not_true,Bool.false_eq_true,if_false] at ins con
    have hall:∀ k∈b.Kids,k.Kind=1:=by
      rcases hg.2 with h | h
      · exact fun k hk=>(h k hk).1
      · obtain ⟨k,hk,e⟩:=List.any_eq_true.1 hb
        have:=h k (hsub k hk); simp [outerM,this] at e
    have hW:∀ k,∃ p:Int×Int,k∈flowM b→(KN (N+1)).eM (Fv.fn 55) k=some p∧(KN (N+1)).gJ k=some p∧p.1≤p.2:=fun k=>by
      by_cases hm:k∈flowM b
      · obtain ⟨p,hp⟩:=ih k (hsub k hm) (hall k (hsub k hm))
        exact ⟨p,fun _=>hp⟩
      · exact ⟨(0,0),fun h=>absurd h hm⟩
    obtain ⟨W,hW⟩:=Classical.skolem.1 hW
    have e1:=inside_wloop (KN (N+1)) (N+1) E1 (flowM b,true) W hfl (fun k hk=>(hW k hk).1) (N+1) 0 0 0 (by omega) (by simp only []; omega)
    have e2:=contents_loop (KN (N+1)) (N+1) (flowM b) W hfl (fun k hk=>(hW k hk).2.1) (N+1) 0 0 0 (by omega) (by omega)
    simp only [List.drop_zero] at e1 e2
    exact fin _ _ (wiM_le W (flowM b) 0 0 (fun k hk=>(hW k hk).2.2) (Int.le_refl _)) (con.trans e2) (fun hw=>(ins hw).trans e1)
  | false =>
    rw [hb] at ins con
    simp only [Bool.not_false,if_true] at ins con
    have htx:∀ k∈flowM b,(k.Text.size:Int)≤60:=fun k hk=>by
      rcases hg.2 with h | h
      · have:=List.any_eq_false.1 hb k hk
        simp [outerM,(h k (hsub k hk)).1] at this
      · exact (ht k (hsub k hk)).2 (h k (hsub k hk))
    rw [spread_def _ _ _ _ hfl (by omega)] at con
    rw [spread_def _ _ _ _ hfl hN] at ins
    exact fin _ _ (spM_le (flowM b) 0 0 htx (by omega) (by omega) (by omega)) con ins
theorem frM_bd (s:aE) {c:Int} (hc:c≤1048576) : -7340032≤frM s c∧frM s c≤7340032:=by
  unfold frM
  generalize plainM s=t
  have hm:0≤clampM t 0 c∧clampM t 0 c≤1048576:=by
    have:=cV t.MinWidth 0
    unfold clampM
    simp only []
    split<;>split<;>omega
  have e1:=cV t.Margin.a1 0; have e2:=cV t.Margin.a3 0; have e3:=cV t.Padding.a1 0; have e4:=cV t.Padding.a3 0
  have q1:=cY t.Border.a1; have q3:=cY t.Border.a3
  unfold sumM edgesM
  simp only []
  generalize clampM t 0 c=x at *
  rw [bp (n:=x+(lenM t.Margin.a1 0).1) (by omega) (by omega),bp (n:=x+(lenM t.Margin.a1 0).1+(lenM t.Margin.a3 0).1) (by omega) (by omega),bp (n:=x+(lenM t.Margin.a1 0).1+(lenM t.Margin.a3 0).1+limM t.Border.a1) (by omega) (by omega),bp (n:=x+(lenM t.Margin.a1 0).1+(lenM t.Margin.a3 0).1+limM t.Border.a1+limM t.Border.a3) (by omega) (by omega),bp (n:=x+(lenM t.Margin.a1 0).1+(lenM t.Margin.a3 0).1+limM t.Border.a1+limM t.Border.a3+max (lenM t.Padding.a1 0).1 0) (by omega) (by omega),bp (by omega) (by omega)]
  omega
theorem frame_def (N:Nat) (b:ab) (x y:Int) (h:Cn N b x y):∃ p,fe (KN N) N b E1=some p∧eQ (KN N) N b=some p∧p.1≤p.2 ∧ -7340032≤p.1∧p.2≤7340032:=by
  obtain ⟨h1,h2,h3,h4,h5⟩:=h
  have ex:=cY x
  have ey:=cY y
  rw [h2] at ex; rw [h3] at ey
  unfold fe eQ ng
  rw [h4,h5]
  have hF:∀ c,frM b.Style c=w64 (clampM (plainM b.Style) 0 c+sumM (edgesM (plainM b.Style) 0 0)):=fun c=>sum_split (plainM b.Style) _
  simp only [Option.bind_some,uQ,plain_def,clamp_def,tI,s6,rT,pix_def,h2,h3]
  have hk:(plainM b.Style).Width.Kind≠2:=auto2 _
  by_cases hw:(plainM b.Style).Width.Kind=1
  · have e1:(lenM (plainM b.Style).Width 0).2=true:=by rw [len2]; simp [hw]
    have e2:(pixM (plainM b.Style).Width).2=true:=by unfold pixM; simp [hw]
    have e3:(pixM (plainM b.Style).Width).1=limM (lenM (plainM b.Style).Width 0).1:=by unfold pixM lenM limM; simp only [hw,if_true]; omega
    simp only [e1,e2,if_true,jq,oL,n9,un,Option.bind_some,e3]
    refine ⟨_,rfl,?_,Int.le_refl _,(frM_bd b.Style (cY _).2).1,(frM_bd b.Style (cY _).2).2⟩
    rw [←hF]; rfl
  · have e1:(lenM (plainM b.Style).Width 0).2=false:=by rw [len2]; simp [hw,hk]
    have e2:(pixM (plainM b.Style).Width).2=false:=by unfold pixM; simp [hw]
    simp only [e1,e2,Bool.false_eq_true,if_false,jq,oL,n9,un,Option.bind_some]
    refine ⟨_,rfl,?_,frM_le b.Style h1 ey.2,(frM_bd b.Style (by omega)).1,(frM_bd b.Style ey.2).2⟩
    rw [←hF,← hF]; rfl
theorem widths_eq:∀ (d N:Nat) (b:ab),GoodB d b→TB d b→d+25≤N→∃ x y,Cn N b x y
  | 0,_,_,h,_,_=>h.elim
  | d+1,0,_,_,_,h=>by omega
  | d+1,N+1,b,hg,ht,hN=>by
    refine core d N b hg ht (by omega) fun k hk hk1=>?_
    have hgk:GoodB d k:=by
      rcases hg.2 with h | h
      · exact (h k hk).2
      · have:=h k hk; omega
    obtain ⟨x,y,hc⟩:=widths_eq d N k hgk ((ht k hk).1 hk1) (by omega)
    obtain ⟨p,p1,p2,p3,_⟩:=frame_def N k x y hc
    refine ⟨p,?_,p2,p3⟩
    show fA (KN N) N k=some p
    unfold fA ff
    simp only [Option.bind_some]
    rw [show (⟨(Fv.fn 54),(Fv.fn 55),(Fv.fn 56),(Fv.fn 57)⟩:bw)=E1 from rfl,p1]
    rfl
end Go.Proofs.Ytlpndemhnpajiaa.Wd

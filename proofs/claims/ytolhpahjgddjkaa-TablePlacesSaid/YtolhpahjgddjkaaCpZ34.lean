/- Plain laws about the plain functions: words for all of them. No program in sight. -/
import Derived.Test.YtolhpahjgddjkaaCpGf
import Derived.Test.YtolhpahjgddjkaaCpGop
namespace Go.Proofs.Ytolhpahjgddjkaa
set_option linter.all false
open Go.RowKit
theorem bg {n:Int} (h1 : -9223372036854775808≤n) (h2:n≤9223372036854775807):w64 n=n:=by
  unfold w64; rw [IntKind.wrap_i64]; omega
theorem cG {α:Type} (x:Option α):chk true x=x:=rfl
theorem inb_of {i:Int} {n:Nat} (h0:0≤i) (h1:i<n):inb i n=true:=by simp [inb,h0,h1]
theorem bP {α:Type} [Inhabited α] {L:List α} {k:Nat} (h:k<L.length):L.getD k default=L[k]:=by simp [List.getD_eq_getElem?_getD,List.getElem?_eq_getElem h]
theorem dF {n b:Nat} (h:n*b≤140737488355328) (hb:0<b):fits n b=true:=by
  have h1:n≤n*b:=Nat.le_mul_of_pos_right n hb
  have h2:n≤9223372036854775807:=by omega
  simp only [fits,Bool.and_eq_true,decide_eq_true_eq]
  exact ⟨h2,h⟩
end Go.Proofs.Ytolhpahjgddjkaa
namespace Go.Proofs.Ytolhpahjgddjkaa
set_option linter.all false
open Go.RowKit
set_option maxRecDepth 20000
theorem tnat (i:Nat):((i:Int)).toNat=i:=by omega
def sm:List Int→Int
  | []=>0
  | x::r=>x+sm r
end Go.Proofs.Ytolhpahjgddjkaa
namespace Go.Proofs.Ytolhpahjgddjkaa.QSort
set_option linter.all false
open Go.RowKit
theorem aN {α:Type} {i:Int} {m:Nat} {x:Option α} (h:0≤i∧i<m):chk (inb i m) x=x:=by rw [inb_of h.1 h.2]; rfl
theorem wn {n:Int} {k:Nat} (h:n=k) (hk:k≤4000000000):w64 n=(k:Int):=by subst h; exact bg (by omega) (by omega)
theorem iteT {α:Type} {p:Prop} [Decidable p] {x y:α} (h:p):(if decide p=true then x else y)=x:=by simp [h]
theorem iteF {α:Type} {p:Prop} [Decidable p] {x y:α} (h:¬ p):(if decide p=true then x else y)=y:=by simp [h]
theorem sb {α β:Type} (x:α) (k:α→Option β):(some x).bind k=k x:=rfl
def R (key:Int→Int) (a b:Int):Prop:=key a<key b∨key a=key b∧a<b
theorem R.trans {key:Int→Int} {a b c:Int} (h:R key a b) (h2:R key b c):R key a c:=by unfold R at *; omega
theorem R.not {key:Int→Int} {a b:Int} (h:a≠b) (h2:¬ R key a b):R key b a:=by unfold R at *; omega
variable {K:Kn} {n:Nat} {f:Fv} {D:Int→Prop} {key:Int→Int}
end Go.Proofs.Ytolhpahjgddjkaa.QSort
namespace Go.Proofs.Ytolhpahjgddjkaa.QSort
set_option linter.all false
open Go.RowKit
variable {K:Kn} {n:Nat} {f:Fv} {D:Int→Prop} {key:Int→Int}
inductive Bl (key:Int→Int) (bs:Nat):List Int→List Int→Prop
  | last (o d:List Int) (h:o.length≤bs) (p:d.Perm o) (s:d.Pairwise (R key)):Bl key bs o d
  | more (o1 d1 o2 d2:List Int) (h:o1.length=bs) (p:d1.Perm o1) (s:d1.Pairwise (R key)) (t:Bl key bs o2 d2):Bl key bs (o1++o2) (d1++d2)
theorem Bl.len {bs:Nat} {o d:List Int} (h:Bl key bs o d):d.length=o.length:=by
  induction h with
  | last o d h p s=>exact p.length_eq
  | more o1 d1 o2 d2 h p s t ih=>simp [p.length_eq,ih]
end Go.Proofs.Ytolhpahjgddjkaa.QSort
namespace Go.Proofs.Ytolhpahjgddjkaa
set_option linter.all false
open Go.RowKit
namespace Sh
def idx (n:Nat):List Int:=(List.range n).map fun (k:Nat)=>(k:Int)
instance (key:Int→Int) (a b:Int):Decidable (QSort.R key a b):=by unfold QSort.R; infer_instance
theorem idx_len (n:Nat):(idx n).length=n:=by simp [idx]
theorem f0 {n:Nat} {x:Int}:x∈idx n ↔ ∃ k:Nat,k<n∧x=k:=by
  simp only [idx,List.mem_map,List.mem_range]
  exact ⟨fun ⟨k,h,e⟩=>⟨k,h,e.symm⟩,fun ⟨k,h,e⟩=>⟨k,h,e.symm⟩⟩
theorem idx_lt (n:Nat):(idx n).Pairwise (· < ·):=by
  unfold idx
  rw [List.pairwise_map]
  refine List.Pairwise.imp (fun h=>?_) List.pairwise_lt_range
  omega
theorem idx_succ (n:Nat):idx (n+1)=idx n++[(n:Int)]:=by simp [idx,List.range_succ]
theorem sm_le {c:Int}:∀ L:List Int,(∀ x∈L,x≤c)→sm L≤L.length*c
  | [],_=>by simp [sm]
  | x::L,h=>by
    have:=sm_le L (fun y hy=>h y (by simp [hy])); have:=h x (by simp)
    simp only [sm,List.length_cons]
    rw [show ((L.length+1:Nat):Int)*c=L.length*c+c by simp [Int.add_mul]]; omega
theorem sm_nn:∀ L:List Int,(∀ x∈L,0≤x)→0≤sm L
  | [],_=>by simp [sm]
  | x::L,h=>by
    have:=sm_nn L (fun y hy=>h y (by simp [hy])); have:=h x (by simp)
    simp only [sm]; omega
def key (rs:List Int) (a:Int):Int := - rs.getD a.toNat default
structure Ord (rs d:List Int):Prop where
  p:d.Perm (idx rs.length)
  s:d.Pairwise (QSort.R (key rs))
theorem Ord.mem {rs d:List Int} (h:Ord rs d) {x:Int}:x∈d ↔ ∃ k:Nat,k<rs.length∧x=k:=by rw [h.p.mem_iff,f0]
theorem Ord.len {rs d:List Int} (h:Ord rs d):d.length=rs.length:=by rw [h.p.length_eq,idx_len]
end Sh
end Go.Proofs.Ytolhpahjgddjkaa
namespace Go.Proofs.Ytolhpahjgddjkaa
set_option linter.all false
open Go.RowKit
namespace Sh
open QSort (wn aN iteT iteF sb)
variable {K:Kn} {n:Nat}
theorem mkb_of {n b:Nat} (h:n*b≤140737488355328) (h2:n≤4611686018427387904):mkb (n:Int) b=true:=by
  simp only [mkb,Bool.and_eq_true,decide_eq_true_eq,Int.toNat_natCast]; omega
end Sh
end Go.Proofs.Ytolhpahjgddjkaa
namespace Go.Proofs.Ytolhpahjgddjkaa.Tb
set_option linter.all false
open Go.RowKit
open Sh (idx idx_len f0 idx_lt idx_succ)
open QSort (wn aN iteT iteF sb R)
set_option maxRecDepth 20000
variable {K:Kn} {n:Nat}
def okp (p:aa):Bool:=decide (p.Row≥0) && (decide (p.Col≥0) && (decide (p.Rows≥1) && decide (p.Cols≥1)))
def plc (L:List aa) (i:Int):aa:=L.getD i.toNat default
def val (L:List aa) (q:aa→Bool) (c:Nat):List Int:=(idx (min L.length c)).filter fun i=>okp (plc L i) && q (plc L i)
theorem val_mem {L:List aa} {q:aa→Bool} {c:Nat} {x:Int} (h:x∈val L q c):0≤x∧x.toNat<L.length∧x.toNat<c∧okp (plc L x)=true∧q (plc L x)=true:=by
  obtain ⟨h1,h2⟩:=List.mem_filter.1 h
  obtain ⟨k,hk,rfl⟩:=f0.1 h1
  simp only [Bool.and_eq_true] at h2
  exact ⟨by omega,by omega,by omega,h2.1,h2.2⟩
end Go.Proofs.Ytolhpahjgddjkaa.Tb
namespace Go.Proofs.Ytolhpahjgddjkaa.Tb
set_option linter.all false
open Go.RowKit
open Sh (idx idx_len f0 idx_lt idx_succ sm_nn sm_le)
open QSort (wn aN iteT iteF sb R)
set_option maxRecDepth 20000
variable {K:Kn} {n:Nat}
def Ok (c:Int) (rows:Nat) (out:List Int):Prop:=out.length=rows∧∀ x∈out,0≤x∧x≤c
theorem Ok.at {c:Int} {rows:Nat} {out:List Int} (h:Ok c rows out) {k:Nat} (hk:k<rows):0≤out.getD k default∧out.getD k default≤c:=by
  have hk':k<out.length:=by rw [h.1]; exact hk
  rw [bP hk']; exact h.2 _ (List.getElem_mem _)
theorem Ok.set {c:Int} {rows:Nat} {out:List Int} (h:Ok c rows out) {k:Nat} {x:Int} (hx:0≤x∧x≤c):Ok c rows (List.set out k x):=by
  refine ⟨by simp [h.1],fun y hy=>?_⟩
  rcases List.mem_or_eq_of_mem_set hy with h1 | h1
  · exact h.2 y h1
  · subst h1; exact hx
def qh (rows:Int) (p:aa):Bool:=decide (p.Row<rows) && decide (p.Rows≤w64 (rows - p.Row))
structure Vh (rows:Nat) (L:List aa) (H:List Int) (i:Int):Prop where
  i0:0≤i
  iL:i.toNat<L.length
  iH:i.toNat<H.length
  r0:0≤(plc L i).Row
  r1:1≤(plc L i).Rows
  r2:(plc L i).Row+(plc L i).Rows≤rows
theorem okp_of {p:aa} (h:okp p=true):p.Row≥0∧p.Col≥0∧p.Rows≥1∧p.Cols≥1:=by simpa [okp] using h
theorem qh_of {rows:Nat} {p:aa} (hr:rows≤10000) (h1:okp p=true) (h2:qh rows p=true):p.Row+p.Rows≤rows:=by
  have:=okp_of h1
  unfold qh at h2
  simp only [Bool.and_eq_true,decide_eq_true_eq] at h2
  rw [bg (by omega) (by omega)] at h2; omega
theorem Vh.of {rows:Nat} {L:List aa} {H:List Int} (hr:rows≤10000) {i:Int} (h:i∈val L (qh rows) H.length):Vh rows L H i:=by
  obtain ⟨h1,h2,h3,h4,h5⟩:=val_mem h
  have:=okp_of h4
  exact ⟨h1,h2,h3,by omega,by omega,qh_of hr h4 h5⟩
end Go.Proofs.Ytolhpahjgddjkaa.Tb
namespace Go.Proofs.Ytolhpahjgddjkaa.Tb
set_option linter.all false
open Go.RowKit
open QSort (wn aN iteT iteF sb)
set_option maxRecDepth 20000
variable {K:Kn} {n:Nat}
abbrev Span:=V2 Int
def covp (r c:Int) (p:aa):Bool:=decide (p.Row≤r) && (decide (r<p.Row+p.Rows) && (decide (p.Col≤c) && decide (c<p.Col+p.Cols)))
def cov (A:List aa) (r c:Int):Bool:=A.any (covp r c)
theorem cov_app (A B:List aa) (r c:Int):cov (A++B) r c=(cov A r c || cov B r c):=List.any_append
def nf (f:Int→Bool):Nat→Int→Int
  | 0,c=>c
  | k+1,c=>if f c=true then nf f k (c+1) else c
def fuel (c:Int):Nat:=(100000 - c).toNat
theorem dD (f:Int→Bool):∀ (k:Nat) (c:Int),c≤nf f k c
  | 0,c=>Int.le_refl _
  | k+1,c=>by
    simp only [nf]; split
    · have:=dD f k (c+1); omega
    · omega
theorem nf_le {f:Int→Bool} {E:Int} (hE:∀ x,E≤x→f x=false):∀ (k:Nat) (c:Int),nf f k c≤max c E
  | 0,c=>by simp only [nf]; omega
  | k+1,c=>by
    simp only [nf]; split
    · rename_i h
      have:¬ E≤c:=fun h2=>by rw [hE c h2] at h; cases h
      have:=nf_le hE k (c+1); omega
    · omega
theorem nf_free {f:Int→Bool} {E:Int} (hE:∀ x,E≤x→f x=false):∀ (k:Nat) (c:Int),(E - c).toNat≤k→f (nf f k c)=false
  | 0,c,h=>hE c (by omega)
  | k+1,c,h=>by
    simp only [nf]; split
    · rename_i h2
      have:¬ E≤c:=fun h3=>by rw [hE c h3] at h2; cases h2
      exact nf_free hE k (c+1) (by omega)
    · rename_i h2; simpa using h2
def mkp (R r:Int) (c:Int) (s:Span):aa:=⟨r,c,min (max s.a0 1) (R - r),min (max s.a1 1) 100⟩
def cells (R r:Int) (f:Int→Bool):List Span→Int→List aa
  | [],_=>[]
  | s::t,col=>mkp R r (nf f (fuel col) col) s::cells R r f t (nf f (fuel col) col+min (max s.a1 1) 100)
def cmax (C:Int) (l:List aa):Int:=l.foldl (fun a p=>max a (p.Col+p.Cols)) C
theorem cmax_app (C:Int) (a b:List aa):cmax C (a++b)=cmax (cmax C a) b:=List.foldl_append
theorem cmax_ge:∀ (l:List aa) (C:Int),C≤cmax C l∧∀ p∈l,p.Col+p.Cols≤cmax C l
  | [],C=>⟨Int.le_refl _,fun p hp=>(by cases hp)⟩
  | q::l,C=>by
    have h:=cmax_ge l (max C (q.Col+q.Cols))
    refine ⟨by simp only [cmax,List.foldl_cons]; have:=h.1; unfold cmax at this; omega,fun p hp=>?_⟩
    rcases List.mem_cons.1 hp with e | hp
    · subst e; simp only [cmax,List.foldl_cons]; have:=h.1; unfold cmax at this; omega
    · exact h.2 p hp
structure Pl (R r:Int) (C:Int) (p:aa):Prop where
  row:p.Row=r
  rows:1≤p.Rows
  down:p.Row+p.Rows≤R
  col:0≤p.Col
  cols:1≤p.Cols∧p.Cols≤100
  right:p.Col+p.Cols≤C
theorem ew (R r:Int) (f:Int→Bool):∀ (l:List Span) (col:Int),(cells R r f l col).length=l.length
  | [],_=>rfl
  | s::t,col=>by simp only [cells,List.length_cons,ew R r f t]
theorem cells_ok {R r:Int} {f:Int→Bool} (hr:r<R):∀ (l:List Span) (col C:Int),(∀ x,C≤x→f x=false)→0≤col→col≤C →
    (∀ p∈cells R r f l col,Pl R r (C+100*l.length) p∧col≤p.Col)∧cmax C (cells R r f l col)≤C+100*l.length
  | [],col,C,hf,h0,h1=>⟨fun p hp=>(by cases hp),(by simp [cmax,cells])⟩
  | s::t,col,C,hf,h0,h1=>by
    have g1:=dD f (fuel col) col
    have g2:=nf_le hf (fuel col) col
    have hlen:(((s::t).length:Nat):Int)=t.length+1:=by simp
    have ih:=cells_ok hr t (nf f (fuel col) col+min (max s.a1 1) 100) (C+100) (fun x hx=>hf x (by omega)) (by omega) (by omega)
    refine ⟨fun p hp=>?_,?_⟩
    · simp only [cells] at hp
      rcases List.mem_cons.1 hp with e | hp
      · subst e
        refine ⟨⟨rfl,?_,?_,?_,⟨?_,?_⟩,?_⟩,g1⟩<;>simp only [mkp]<;>omega
      · have:=(ih.1 p hp)
        refine ⟨⟨this.1.row,this.1.rows,this.1.down,this.1.col,this.1.cols,by have:=this.1.right; omega⟩,by have:=this.2; omega⟩
    · have e:∀ (l:List aa) (a b:Int),a≤b→cmax a l≤cmax b l:=by
        intro l
        induction l with
        | nil=>intro a b h; exact h
        | cons q l ih=>intro a b h; exact ih (max a (q.Col+q.Cols)) (max b (q.Col+q.Cols)) (by omega)
      have h3:=e (cells R r f t (nf f (fuel col) col+min (max s.a1 1) 100)) (max C ((mkp R r (nf f (fuel col) col) s).Col+(mkp R r (nf f (fuel col) col) s).Cols)) (C+100) (by show max C (nf f (fuel col) col+min (max s.a1 1) 100)≤C+100; omega)
      have h4:=ih.2
      have h5:cmax C (cells R r f (s::t) col)=cmax (max C ((mkp R r (nf f (fuel col) col) s).Col+(mkp R r (nf f (fuel col) col) s).Cols)) (cells R r f t (nf f (fuel col) col+min (max s.a1 1) 100)):=rfl
      omega
theorem iy {R r:Int} {f:Int→Bool} {E:Int} (hf:∀ x,E≤x→f x=false) (hE:E≤100000):∀ (l:List Span) (col:Int),0≤col →
    ∀ i,i<l.length→f ((cells R r f l col).getD i default).Col=false∧(0<i→((cells R r f l col).getD (i - 1) default).Col+((cells R r f l col).getD (i - 1) default).Cols≤((cells R r f l col).getD i default).Col)
  | [],col,_,i,h=>by simp at h
  | s::t,col,h0,0,h=>by
    refine ⟨?_,fun h=>by omega⟩
    show f (nf f (fuel col) col)=false
    exact nf_free hf _ _ (by unfold fuel; omega)
  | s::t,col,h0,i+1,h=>by
    have g1:=dD f (fuel col) col
    have ih:=iy (R:=R) (r:=r) hf hE t (nf f (fuel col) col+min (max s.a1 1) 100) (by omega) i (by simpa using h)
    refine ⟨ih.1,fun _=>?_⟩
    match i with
    | 0 =>
      have ht:0<t.length:=by simpa using h
      match t,ht with
      | s2::t2,_ =>
        show nf f (fuel col) col+min (max s.a1 1) 100≤nf f (fuel (nf f (fuel col) col+min (max s.a1 1) 100)) (nf f (fuel col) col+min (max s.a1 1) 100)
        exact dD _ _ _
    | j+1=>exact ih.2 (by omega)
def rw (S:List (List Span)):Nat→List (List aa)
  | 0=>[]
  | k+1=>rw S k++[cells S.length k (cov (rw S k).flatten k) (S.getD k default) 0]
def abv (S:List (List Span)) (k:Nat):List aa:=(rw S k).flatten
def col (S:List (List Span)) (k:Nat):Int:=cmax 0 (abv S k)
def rowc (S:List (List Span)) (k:Nat):List aa:=cells S.length k (cov (abv S k) k) (S.getD k default) 0
theorem d9 (S:List (List Span)) (k:Nat):rw S (k+1)=rw S k++[rowc S k]:=rfl
theorem ct (S:List (List Span)):∀ k,(rw S k).length=k
  | 0=>rfl
  | k+1=>by rw [d9,List.length_append,ct S k]; rfl
theorem di (S:List (List Span)) (k:Nat):abv S (k+1)=abv S k++rowc S k:=by unfold abv; rw [d9]; simp
theorem fW (S:List (List Span)) (k:Nat):col S (k+1)=cmax (col S k) (rowc S k):=by unfold col; rw [di,cmax_app]
theorem rw_at (S:List (List Span)) {k:Nat}:∀ {m:Nat},k<m→(rw S m).getD k default=rowc S k
  | 0,h=>by omega
  | m+1,h=>by
    rw [d9,List.getD_eq_getElem?_getD]
    by_cases e:k=m
    · subst e; rw [List.getElem?_append_right (by rw [ct]; exact Nat.le_refl _),ct,Nat.sub_self]; rfl
    · rw [List.getElem?_append_left (by rw [ct]; omega),← List.getD_eq_getElem?_getD]; exact rw_at S (by omega)
structure Sp (S:List (List Span)):Prop where
  r:S.length≤20
  c:∀ row∈S,row.length≤20
theorem Sp.at {S:List (List Span)} (h:Sp S) {k:Nat} (hk:k<S.length):(S.getD k default).length≤20:=h.c _ (by rw [bP hk]; exact List.getElem_mem _)
structure Up (S:List (List Span)) (k:Nat):Prop where
  p:∀ p∈abv S k,0≤p.Row∧p.Row<k∧1≤p.Rows∧p.Row+p.Rows≤S.length∧0≤p.Col∧1≤p.Cols∧p.Cols≤100∧p.Col+p.Cols≤col S k
  c:0≤col S k∧col S k≤2000*k
  l:(abv S k).length≤20*k
theorem Up.free {S:List (List Span)} {k:Nat} (h:Up S k) (r:Int):∀ x,col S k≤x→cov (abv S k) r x=false:=by
  intro x hx
  unfold cov
  rw [List.any_eq_false]
  intro p hp
  have:=h.p p hp
  unfold covp
  rw [show decide (x<p.Col+p.Cols)=false from decide_eq_false (by omega)]; simp
theorem row_ok {S:List (List Span)} (hS:Sp S) {k:Nat} (hk:k<S.length) (h:Up S k):(∀ p∈rowc S k,Pl S.length k (col S k+2000) p)∧col S (k+1)≤col S k+2000:=by
  have hl:=hS.at hk
  have:=cells_ok (R:=S.length) (r:=k) (f:=cov (abv S k) k) (by omega) (S.getD k default) 0 (col S k) (h.free k) (by omega) h.c.1
  refine ⟨fun p hp=>?_,?_⟩
  · obtain ⟨h1,h2⟩:=this.1 p hp
    exact ⟨h1.row,h1.rows,h1.down,h1.col,h1.cols,by have:=h1.right; omega⟩
  · rw [fW]; have:=this.2; unfold rowc; omega
theorem up {S:List (List Span)} (hS:Sp S):∀ k,k≤S.length→Up S k
  | 0,_=>⟨fun p hp=>(by simp [abv,rw] at hp),by simp [col,abv,rw,cmax],by simp [abv,rw]⟩
  | k+1,hk=>by
    have h:=up hS k (by omega)
    have hl:=hS.at (show k<S.length by omega)
    obtain ⟨r1,r2⟩:=row_ok hS (show k<S.length by omega) h
    have g:=cmax_ge (rowc S k) (col S k)
    rw [←fW] at g
    refine ⟨fun p hp=>?_,by have:=h.c; omega,?_⟩
    · rw [di] at hp
      rcases List.mem_append.1 hp with hp | hp
      · have:=h.p p hp; omega
      · have h1:=r1 p hp; have h2:=g.2 p hp
        have:=h1.row; have:=h1.rows; have:=h1.down; have:=h1.col; have:=h1.cols
        omega
    · rw [di,List.length_append]
      have:=h.l
      have:(rowc S k).length=(S.getD k default).length:=ew _ _ _ _ _
      omega
end Go.Proofs.Ytolhpahjgddjkaa.Tb
namespace Go.Proofs.Ytolhpahjgddjkaa.Tb
set_option linter.all false
open Go.RowKit
open QSort (wn aN iteT iteF sb)
set_option maxRecDepth 20000
variable {K:Kn} {n:Nat}
theorem mfind_put (k x:Int):∀ l:List (Int×Bool),mfind x (mputL k true l)=if x=k then some true else mfind x l
  | []=>by
    simp only [mputL,mfind]
    by_cases h:k=x
    · rw [decide_eq_true h,if_pos h.symm]
    · rw [decide_eq_false h,if_neg (Ne.symm h)]
  | p::l=>by
    simp only [mputL]
    by_cases h:p.1=k
    · rw [decide_eq_true h]
      simp only [mfind]
      by_cases h2:k=x
      · rw [decide_eq_true h2,if_pos h2.symm]
      · rw [decide_eq_false h2,if_neg (Ne.symm h2),decide_eq_false (by omega)]
    · rw [decide_eq_false h]
      simp only [mfind]
      by_cases h2:p.1=x
      · rw [decide_eq_true h2,if_neg (by omega)]
      · rw [decide_eq_false h2]; exact mfind_put k x l
theorem mget_put {m:TMp} (h:m.isSome=true) (k x:Int):mget (mput m k true) x=(mget m x || decide (x=k)):=by
  cases m with
  | none=>cases h
  | some l =>
    simp only [mput,mget,mfind_put]
    by_cases e:x=k
    · rw [if_pos e,decide_eq_true e,Bool.or_true]
    · rw [if_neg e,decide_eq_false e,Bool.or_false]
def cg (cv:List TMp) (k:Nat) (x:Int):Bool:=mget (cv.getD k none) x
theorem cg_set {cv:List TMp} {k k':Nat} {m:TMp} (hk:k'<cv.length) (x:Int):cg (cv.set k m) k' x=if k'=k then mget m x else cg cv k' x:=by
  unfold cg
  by_cases h:k'=k
  · subst h; rw [if_pos rfl]; simp [List.getD_eq_getElem?_getD,hk]
  · rw [if_neg h]; simp [List.getD_eq_getElem?_getD,List.getElem?_set,Ne.symm h]
theorem p_l1 {S:List (List Span)} (hS:Sp S) {r:Nat} (hr:r<S.length) (out:List (List aa)) (cv:List TMp) (hcv:cv.length=S.length) (C L idx:Int) (list:List aa) (hl:list.length≤1000) (s:Span) (hidx:w64 (idx+1)=idx+1) (hC:0≤C∧C≤200000)
    (L1:Int→Int→List (List aa)→List TMp→Option ((List (List aa))×Int)) (L2:Int→Int→Int→Int→List aa→Option ((List (List aa))×Int))
    (hf:∀ x,100000≤x→cg cv r x=false):∀ (k:Nat) (c:Int) (m:Nat),fuel c=k→k<m→0≤c→c≤100000 →
    cC K n S (r:Int) out cv C L idx list L1 L2 m c s=L2 (max C (nf (cg cv r) (fuel c) c+min (max s.a1 1) 100)) (nf (cg cv r) (fuel c) c+min (max s.a1 1) 100) L (idx+1) (list++[mkp S.length r (nf (cg cv r) (fuel c) c) s]):=by
  have hR:=hS.r
  have fin:∀ (c:Int) (m:Nat),0≤c→c≤100000→0<m→cg cv r c=false→cC K n S (r:Int) out cv C L idx list L1 L2 m c s=L2 (max C (c+min (max s.a1 1) 100)) (c+min (max s.a1 1) 100) L (idx+1) (list++[mkp S.length r c s]):=by
    intro c m h0 h1 hm hc
    obtain ⟨m,rfl⟩:∃ j,m=j+1:=⟨m - 1,by omega⟩
    simp only [cC,dh,tnat]
    unfold cg at hc
    rw [aN (by omega),hc,sb,if_neg (by decide),sb,dF (by simp; omega) (by omega),cG,bg (n:=(S.length:Int) - (r:Int)) (by omega) (by omega),bg (by omega) (by omega),hidx]
    rfl
  intro k
  induction k with
  | zero =>
    intro c m hk hm h0 h1
    have hc:100000≤c:=by unfold fuel at hk; omega
    rw [hk]; simp only [nf]
    exact fin c m h0 h1 hm (hf c hc)
  | succ k ih =>
    intro c m hk hm h0 h1
    rw [hk]; simp only [nf]
    cases hc:cg cv r c
    · rw [if_neg (by decide)]
      exact fin c m h0 h1 (by omega) hc
    · rw [if_pos rfl]
      obtain ⟨m,rfl⟩:∃ j,m=j+1:=⟨m - 1,by omega⟩
      have hlt:c<100000:=by unfold fuel at hk; omega
      simp only [cC,dh,tnat]
      have hc':=hc
      unfold cg at hc'
      rw [aN (by omega),hc',sb,if_pos rfl,bg (by omega) (by omega)]
      have:=ih (c+1) m (by unfold fuel at hk ⊢; omega) (by omega) (by omega) (by omega)
      rw [show fuel (c+1)=k by unfold fuel at hk ⊢; omega] at this
      exact this
theorem p_l2 {S:List (List Span)} (hS:Sp S) {r:Nat} (hr:r<S.length) (hn:200000<n) (out:List (List aa)) (cv:List TMp) (hcv:cv.length=S.length) {E:Int} (hE:0≤E∧E≤50000) (hf:∀ x,E≤x→cg cv r x=false)
    (L1:Int→Int→List (List aa)→List TMp→Option ((List (List aa))×Int)):∀ (m i:Nat) (C col:Int) (list:List aa),i≤(S.getD r default).length→(S.getD r default).length<m+i→0≤col→max col E+100*(((S.getD r default).length - i:Nat):Int)≤90000→0≤C∧C+100*(((S.getD r default).length - i:Nat):Int)≤100000→col≤90000→list.length≤i →
    cR K n S (r:Int) out cv L1 m C col ((S.getD r default).length:Int) (i:Int) list=cA K n S (r:Int) out (cmax C (cells S.length r (cg cv r) ((S.getD r default).drop i) col)) (list++cells S.length r (cg cv r) ((S.getD r default).drop i) col) L1 n 0 cv:=by
  have hR:=hS.r; have hrow:=hS.at hr
  intro m
  induction m with
  | zero=>intro i C col list h1 h2; omega
  | succ m ih =>
    intro i C col list h1 h2 h3 h4 h5 h6 h7
    simp only [cR,eh,tnat]
    by_cases hi:i<(S.getD r default).length
    · rw [iteT (by omega),aN (by omega)]
      have e:=p_l1 (K:=K) (n:=n) hS hr out cv hcv C ((S.getD r default).length:Int) (i:Int) list (by omega) ((S.getD r default).getD i default) (bg (by omega) (by omega)) (by omega) L1 (cR K n S (r:Int) out cv L1 m) (fun x hx=>hf x (by omega)) (fuel col) col n rfl (by unfold fuel; omega) h3 (by omega)
      have g1:=dD (cg cv r) (fuel col) col
      have g2:=nf_le hf (fuel col) col
      rw [e,List.drop_eq_getElem_cons hi,← bP hi]
      generalize hs:(S.getD r default).getD i default=s at *
      have hst:(((S.getD r default).length - i:Nat):Int)=(((S.getD r default).length - (i+1):Nat):Int)+1:=by omega
      have:=ih (i+1) (max C (nf (cg cv r) (fuel col) col+min (max s.a1 1) 100)) (nf (cg cv r) (fuel col) col+min (max s.a1 1) 100) (list++[mkp S.length r (nf (cg cv r) (fuel col) col) s]) (by omega) (by omega) (by omega) (by omega) (by omega) (by omega) (by simp; omega)
      rw [show (i:Int)+1=((i+1:Nat):Int) by omega,this]
      simp only [cells,List.append_assoc,List.singleton_append]
      rfl
    · obtain rfl:i=(S.getD r default).length:=by omega
      rw [iteF (by omega),List.drop_length]
      simp [cells,cmax]
section
variable {S:List (List Span)} {r:Nat} (out:List (List aa)) (C:Int) (l:List aa)
theorem p_l4 {j:Int} {p:aa} (hp:l.getD j.toNat default=p) (hc:0≤p.Col∧1≤p.Cols∧p.Cols≤100∧p.Col≤200000) {k:Nat} (hk20:k≤1000)
    (L1:Int→Int→List (List aa)→List TMp→Option ((List (List aa))×Int)) (L4 L5:Int→List TMp→Option ((List (List aa))×Int)):∀ (m t:Nat) (cv:List TMp),t≤p.Cols.toNat→p.Cols.toNat<m+t→k<cv.length→(cv.getD k none).isSome=true →
    ∃ cv',dg K n S (r:Int) out C l j (k:Int) L1 L4 L5 m (p.Col+t) cv=L5 ((k+1:Nat):Int) cv'∧cv'.length=cv.length∧∀ k' x,k'<cv.length→cg cv' k' x=(cg cv k' x || (decide (k'=k) && (decide (p.Col+t≤x) && decide (x<p.Col+p.Cols)))):=by
  intro m
  induction m with
  | zero=>intro t cv h1 h2; omega
  | succ m ih =>
    intro t cv h1 h2 hk hs
    simp only [dg,ec,hp,tnat]
    rw [bg (n:=p.Col+p.Cols) (by omega) (by omega)]
    by_cases ht:t<p.Cols.toNat
    · rw [show decide (p.Col+(t:Int)<p.Col+p.Cols)=true from decide_eq_true (by omega),sb,if_pos rfl,aN (by omega),hs,cG,bg (n:=p.Col+(t:Int)+1) (by omega) (by omega)]
      obtain ⟨cv',e1,e2,e3⟩:=ih (t+1) (List.set cv k (mput (cv.getD k none) (p.Col+t) true)) (by omega) (by omega) (by simpa using hk) (by
        rw [show (List.set cv k (mput (cv.getD k none) (p.Col+t) true)).getD k none=mput (cv.getD k none) (p.Col+t) true by simp [List.getD_eq_getElem?_getD,hk]]
        cases h:cv.getD k none with
        | none=>rw [h] at hs; cases hs
        | some l=>rfl)
      refine ⟨cv',?_,by simpa using e2,fun k' x hk'=>?_⟩
      · rw [show p.Col+(t:Int)+1=p.Col+((t+1:Nat):Int) by omega]; exact e1
      · rw [e3 k' x (by simpa using hk'),cg_set hk']
        by_cases h:k'=k
        · subst h
          rw [if_pos rfl,mget_put hs,decide_eq_true rfl,Bool.true_and,Bool.true_and]
          unfold cg
          cases mget (cv.getD k' none) x
          · rw [Bool.false_or,Bool.false_or]
            by_cases h3:x=p.Col+t
            · rw [decide_eq_true h3,Bool.true_or,decide_eq_true (show p.Col+(t:Int)≤x by omega),decide_eq_true (show x<p.Col+p.Cols by omega)]; rfl
            · rw [decide_eq_false h3,Bool.false_or]
              congr 1
              by_cases h4:p.Col+(t:Int)≤x
              · rw [decide_eq_true h4,decide_eq_true (by omega)]
              · rw [decide_eq_false h4,decide_eq_false (by omega)]
          · rfl
        · rw [if_neg h,decide_eq_false h,Bool.false_and,Bool.false_and]
    · obtain rfl:t=p.Cols.toNat:=by omega
      rw [show decide (p.Col+((p.Cols.toNat:Nat):Int)<p.Col+p.Cols)=false from decide_eq_false (by omega),sb,if_neg (by decide),wn (n:=(k:Int)+1) (k:=k+1) (by omega) (by omega)]
      refine ⟨cv,rfl,rfl,fun k' x hk'=>?_⟩
      have:(decide (p.Col+((p.Cols.toNat:Nat):Int)≤x) && decide (x<p.Col+p.Cols))=false:=by
        by_cases h:x<p.Col+p.Cols
        · rw [decide_eq_false (show ¬ p.Col+((p.Cols.toNat:Nat):Int)≤x by omega),Bool.false_and]
        · rw [decide_eq_false h,Bool.and_false]
      rw [this,Bool.and_false,Bool.or_false]
theorem p_l5 {j:Int} {p:aa} {Cm:Int} (hCm:Cm≤200000) (hp:l.getD j.toNat default=p) (hpl:Pl S.length r Cm p) (hR:S.length≤20) (hn:200000<n) (hj:w64 (j+1)=j+1)
    (L1:Int→Int→List (List aa)→List TMp→Option ((List (List aa))×Int)) (L4:Int→List TMp→Option ((List (List aa))×Int)):∀ (m k:Nat) (cv:List TMp),r<k→k≤r+p.Rows.toNat→r+p.Rows.toNat<m+k→cv.length=S.length →
    ∃ cv',cy K n S (r:Int) out C l j L1 L4 m (k:Int) cv=L4 (j+1) cv'∧cv'.length=cv.length∧∀ k' x,k'<cv.length→r<k'→cg cv' k' x=(cg cv k' x || (decide (k≤k') && covp k' x p)):=by
  have p1:=hpl.row; have p2:=hpl.rows; have p3:=hpl.down; have p4:=hpl.col; have p5:=hpl.cols; have p6:=hpl.right
  intro m
  induction m with
  | zero=>intro k cv h1 h2; omega
  | succ m ih =>
    intro k cv h1 h2 h3 hl
    simp only [cy,ee,hp,tnat]
    rw [bg (n:=(r:Int)+p.Rows) (by omega) (by omega)]
    by_cases hk:k<r+p.Rows.toNat
    · rw [show decide ((k:Int)<(r:Int)+p.Rows)=true from decide_eq_true (by omega),sb,if_pos rfl,aN (by omega),sb]
      have step:∀ cv1:List TMp,cv1.length=cv.length→(cv1.getD k none).isSome=true→(∀ k' x,k'<cv.length→cg cv1 k' x=cg cv k' x) →
          ∃ cv',dz K n S (r:Int) out C l j (k:Int) L1 L4 (cy K n S (r:Int) out C l j L1 L4 m) cv1=L4 (j+1) cv'∧cv'.length=cv.length∧∀ k' x,k'<cv.length→r<k'→cg cv' k' x=(cg cv k' x || (decide (k≤k') && covp k' x p)):=by
        intro cv1 l1 s1 g1
        obtain ⟨cv2,a1,a2,a3⟩:=p_l4 (K:=K) (n:=n) (S:=S) (r:=r) out C l hp (by omega) (k:=k) (by omega) L1 L4 (cy K n S (r:Int) out C l j L1 L4 m) n 0 cv1 (by omega) (by omega) (by omega) s1
        obtain ⟨cv3,b1,b2,b3⟩:=ih (k+1) cv2 (by omega) (by omega) (by omega) (by omega)
        refine ⟨cv3,?_,by omega,fun k' x hk' hr'=>?_⟩
        · unfold dz
          rw [hp]
          rw [show p.Col+((0:Nat):Int)=p.Col by omega] at a1
          rw [a1,b1]
        · rw [b3 k' x (by omega) hr',a3 k' x (by omega),g1 k' x hk',Bool.or_assoc]
          congr 1
          unfold covp
          rw [p1,decide_eq_true (show (r:Int)≤(k':Int) by omega),Bool.true_and,show p.Col+((0:Nat):Int)=p.Col by omega]
          by_cases h5:k'=k
          · subst h5
            rw [decide_eq_true rfl,decide_eq_false (show ¬ k'+1≤k' by omega),decide_eq_true (Nat.le_refl _),decide_eq_true (show (k':Int)<(r:Int)+p.Rows by omega)]
            simp only [Bool.true_and,Bool.false_and,Bool.or_false]
          · rw [decide_eq_false h5,Bool.false_and,Bool.false_or]
            congr 1
            by_cases h6:k≤k'
            · rw [decide_eq_true h6,decide_eq_true (by omega)]
            · rw [decide_eq_false h6,decide_eq_false (by omega)]
      cases hs:cv.getD k none with
      | none =>
        rw [show Option.isNone (none:TMp)=true from rfl,if_pos rfl,aN (by omega)]
        refine step _ (by simp) (by simp [List.getD_eq_getElem?_getD,show k<cv.length by omega]) (fun k' x hk'=>?_)
        rw [cg_set hk']
        split
        · rename_i e; subst e; unfold cg; rw [hs]; rfl
        · rfl
      | some q =>
        rw [show Option.isNone (some q:TMp)=false from rfl,if_neg (by decide)]
        exact step cv rfl (by rw [hs]; rfl) (fun k' x hk'=>rfl)
    · obtain rfl:k=r+p.Rows.toNat:=by omega
      rw [show decide (((r+p.Rows.toNat:Nat):Int)<(r:Int)+p.Rows)=false from decide_eq_false (by omega),sb,if_neg (by decide),hj]
      refine ⟨cv,rfl,rfl,fun k' x hk' hr'=>?_⟩
      have:(decide (r+p.Rows.toNat≤k') && covp k' x p)=false:=by
        by_cases h:r+p.Rows.toNat≤k'
        · unfold covp
          rw [p1,decide_eq_false (show ¬ (k':Int)<(r:Int)+p.Rows by omega)]; simp
        · rw [decide_eq_false h,Bool.false_and]
      rw [this,Bool.or_false]
theorem p_l6 {Cm:Int} (hCm:Cm≤200000) (hpl:∀ p∈l,Pl S.length r Cm p) (hR:S.length≤20) (hl:l.length≤1000) (ho:out.length≤1000) (hr:r≤1000) (hn:200000<n)
    (L1:Int→Int→List (List aa)→List TMp→Option ((List (List aa))×Int)):∀ (m j:Nat) (cv:List TMp),j≤l.length→l.length<m+j→cv.length=S.length →
    ∃ cv',cA K n S (r:Int) out C l L1 m (j:Int) cv=L1 C ((r+1:Nat):Int) (out++[l]) cv'∧cv'.length=cv.length∧∀ k' x,k'<cv.length→r<k'→cg cv' k' x=(cg cv k' x || cov (l.drop j) k' x):=by
  intro m
  induction m with
  | zero=>intro j cv h1 h2; omega
  | succ m ih =>
    intro j cv h1 h2 hc
    simp only [cA,d5]
    by_cases hj:j<l.length
    · have hp:=hpl (l.getD j default) (by rw [bP hj]; exact List.getElem_mem _)
      have p2:=hp.rows; have p3:=hp.down; have p1:=hp.row
      obtain ⟨cv1,a1,a2,a3⟩:=p_l5 (K:=K) (n:=n) (S:=S) (r:=r) out C l (j:=(j:Int)) (p:=l.getD j default) hCm (by rw [tnat]) hp hR hn (bg (by omega) (by omega)) L1 (cA K n S (r:Int) out C l L1 m) n (r+1) cv (by omega) (by omega) (by omega) hc
      obtain ⟨cv2,b1,b2,b3⟩:=ih (j+1) cv1 (by omega) (by omega) (by omega)
      refine ⟨cv2,?_,by omega,fun k' x hk' hr'=>?_⟩
      · rw [iteT (by omega),aN (by omega),wn (n:=(r:Int)+1) (k:=r+1) (by omega) (by omega),a1,show (j:Int)+1=((j+1:Nat):Int) by omega,b1]
      · rw [b3 k' x (by omega) hr',a3 k' x hk' hr',List.drop_eq_getElem_cons hj,← bP hj,Bool.or_assoc]
        congr 1
        unfold cov
        rw [List.any_cons,decide_eq_true (show r+1≤k' by omega),Bool.true_and]
    · obtain rfl:j=l.length:=by omega
      rw [iteF (by omega),dF (by simp; omega) (by omega),cG,wn (n:=(r:Int)+1) (k:=r+1) (by omega) (by omega)]
      refine ⟨cv,rfl,rfl,fun k' x hk' hr'=>?_⟩
      rw [List.drop_length]; simp [cov]
end
theorem cells_congr {R r:Int} {f g:Int→Bool} (h:∀ x,f x=g x) (l:List Span) (col:Int):cells R r f l col=cells R r g l col:=by
  have:f=g:=funext h
  rw [this]
theorem places_ok {S:List (List Span)} (hS:Sp S) (hn:200000<n):dP K n S=some (rw S S.length,col S S.length):=by
  have hR:=hS.r
  have loop:∀ (m r:Nat) (cv:List TMp),r≤S.length→S.length<m+r→cv.length=S.length→(∀ k x,k<S.length→r≤k→cg cv k x=cov (abv S r) k x)→cJ K n S m (col S r) (r:Int) (rw S r) cv=some (rw S S.length,col S S.length):=by
    intro m
    induction m with
    | zero=>intro r cv h1 h2; omega
    | succ m ih =>
      intro r cv h1 h2 hl hc
      simp only [cJ,eB]
      by_cases hr:r<S.length
      · have hu:=up hS r (by omega)
        have hcr:∀ x,cg cv r x=cov (abv S r) r x:=fun x=>hc r x hr (Nat.le_refl _)
        have hro:=hS.at hr
        obtain ⟨q1,q2⟩:=row_ok hS hr hu
        have c0:=hu.c
        have e:=p_l2 (K:=K) (n:=n) hS hr hn (rw S r) cv hl (E:=col S r) (by omega) (fun x hx=>by rw [hcr]; exact hu.free r x hx) (cJ K n S m) n 0 (col S r) 0 [] (by omega) (by omega) (by omega) (by omega) (by omega) (by omega) (by simp)
        rw [List.drop_zero,List.nil_append,cells_congr hcr,show cells S.length r (cov (abv S r) r) (S.getD r default) 0=rowc S r from rfl,← fW] at e
        have rl:(rowc S r).length=(S.getD r default).length:=ew _ _ _ _ _
        obtain ⟨cv1,a1,a2,a3⟩:=p_l6 (K:=K) (n:=n) (S:=S) (r:=r) (rw S r) (col S (r+1)) (rowc S r) (Cm:=col S r+2000) (by omega) q1 hR (by omega) (by rw [ct]; omega) (by omega) hn (cJ K n S m) n 0 cv (by omega) (by omega) hl
        rw [iteT (by omega),aN (by omega),tnat]
        rw [show ((0:Nat):Int)=0 from rfl] at e a1
        rw [e,a1,← d9]
        refine ih (r+1) cv1 (by omega) (by omega) (by omega) (fun k x hk hk2=>?_)
        rw [a3 k x (by omega) (by omega),hc k x hk (by omega),List.drop_zero,di,cov_app]
      · obtain rfl:r=S.length:=by omega
        rw [iteF (by omega)]
  unfold dP
  rw [Sh.mkb_of (by omega) (by omega),cG,sb,tnat]
  exact loop n 0 _ (by omega) (by omega) (by simp) (fun k x hk _=>by simp [cg,abv,rw,cov,List.getD_eq_getElem?_getD,hk,mget])
end Go.Proofs.Ytolhpahjgddjkaa.Tb
namespace Go.Proofs.Ytolhpahjgddjkaa.Tb
set_option linter.all false
open Go.RowKit
open QSort (wn aN iteT iteF sb)
set_option maxRecDepth 20000
variable {K:Kn} {n:Nat}
def Sm (A:List aa):Prop:=∀ p∈A,0≤p.Row∧p.Row≤1000000∧0≤p.Rows∧p.Rows≤1000000∧0≤p.Col∧p.Col≤1000000∧0≤p.Cols∧p.Cols≤1000000
theorem covers_ok {p:aa} (h:0≤p.Row∧p.Row≤1000000∧0≤p.Rows∧p.Rows≤1000000∧0≤p.Col∧p.Col≤1000000∧0≤p.Cols∧p.Cols≤1000000) (r c:Int):d7 K n p r c=some (covp r c p):=by
  unfold d7 cS covp
  rw [bg (n:=p.Row+p.Rows) (by omega) (by omega),bg (n:=p.Col+p.Cols) (by omega) (by omega)]
  by_cases h1:p.Row≤r
  · rw [iteT (show r≥p.Row from h1),decide_eq_true h1,Bool.true_and]
    by_cases h2:r<p.Row+p.Rows
    · rw [iteT h2,decide_eq_true h2,Bool.true_and]
      by_cases h3:p.Col≤c
      · rw [iteT (show c≥p.Col from h3),decide_eq_true h3,Bool.true_and]
      · rw [iteF (show ¬ c≥p.Col from h3),decide_eq_false h3,Bool.false_and]
    · rw [iteF h2,decide_eq_false h2,Bool.false_and]
  · rw [iteF (show ¬ r≥p.Row from h1),decide_eq_false h1,Bool.false_and]
section
variable {S:List (List Span)} {r:Nat} {A:List aa} (out:List (List aa)) (C idx:Int) (list:List aa)
theorem rp_l2 (hA:Sm A) (hlA:A.length≤1000) (c:Int) (hc:0≤c∧c≤100000)
    (L1:Int→Int→List aa→List (List aa)→Option ((List (List aa))×Int)) (L2:Int→Int→Int→List aa→Option ((List (List aa))×Int)) (L3:Int→Bool→Option ((List (List aa))×Int)):∀ (m j:Nat) (free:Bool),j≤A.length→A.length<m+j →
    dQ K n S (r:Int) A out C idx list c L1 L2 L3 m free (j:Int)=L3 (if (free && !cov (A.drop j) r c)=true then c else c+1) (free && !cov (A.drop j) r c):=by
  intro m
  induction m with
  | zero=>intro j free h1 h2; omega
  | succ m ih =>
    intro j free h1 h2
    simp only [dQ,eu]
    by_cases hj:j<A.length
    · have hp:=hA (A.getD j default) (by rw [bP hj]; exact List.getElem_mem _)
      rw [iteT (by omega),aN (by omega),tnat,covers_ok hp,sb,List.drop_eq_getElem_cons hj,← bP hj]
      have e:cov (A.getD j default::A.drop (j+1)) r c=(covp r c (A.getD j default) || cov (A.drop (j+1)) r c):=rfl
      rw [e]
      unfold d8
      rw [wn (n:=(j:Int)+1) (k:=j+1) (by omega) (by omega)]
      cases covp r c (A.getD j default)
      · rw [if_neg (by decide),Bool.false_or]
        exact ih (j+1) free (by omega) (by omega)
      · rw [if_pos rfl,ih (j+1) false (by omega) (by omega)]
        simp only [Bool.false_and,Bool.true_or,Bool.not_true,Bool.and_false]
    · obtain rfl:j=A.length:=by omega
      rw [iteF (by omega),List.drop_length]
      have:cov [] (r:Int) c=false:=rfl
      rw [this]
      unfold ep
      cases free
      · rw [Bool.not_false,if_pos rfl,bg (by omega) (by omega)]; rfl
      · rfl
theorem rp_l4 (hS:Sp S) (hr:r<S.length) (hi:0≤idx∧idx<(S.getD r default).length) (hA:Sm A) (hlA:A.length≤1000) (hl:list.length≤1000) (hn:200000<n) (hf:∀ x,100000≤x→cov A r x=false)
    (L1:Int→Int→List aa→List (List aa)→Option ((List (List aa))×Int)) (L2:Int→Int→Int→List aa→Option ((List (List aa))×Int)):∀ (k:Nat) (c:Int) (m:Nat),fuel c=k→k+1<m→0≤c→c≤100000 →
    b5 K n S (r:Int) A out C idx list L1 L2 m c false=L2 (max C (nf (cov A r) (fuel c) c+min (max ((S.getD r default).getD idx.toNat default).a1 1) 100)) (nf (cov A r) (fuel c) c+min (max ((S.getD r default).getD idx.toNat default).a1 1) 100) (idx+1) (list++[mkp S.length r (nf (cov A r) (fuel c) c) ((S.getD r default).getD idx.toNat default)]):=by
  have hR:=hS.r; have hrow:=hS.at hr
  have ft:∀ (c:Int) (m:Nat),0<m→0≤c→c≤100000→b5 K n S (r:Int) A out C idx list L1 L2 m c true=L2 (max C (c+min (max ((S.getD r default).getD idx.toNat default).a1 1) 100)) (c+min (max ((S.getD r default).getD idx.toNat default).a1 1) 100) (idx+1) (list++[mkp S.length r c ((S.getD r default).getD idx.toNat default)]):=by
    intro c m hm h0 h1
    obtain ⟨m,rfl⟩:∃ j,m=j+1:=⟨m - 1,by omega⟩
    simp only [b5,dG,tnat,Bool.not_true,Bool.false_eq_true,if_false,sb]
    rw [aN (by omega),aN (by omega),aN (by omega),aN (by omega),dF (by simp; omega) (by omega),cG,bg (n:=(S.length:Int) - (r:Int)) (by omega) (by omega),bg (n:=idx+1) (by omega) (by omega),bg (by omega) (by omega)]
    rfl
  have stp:∀ (c:Int) (m:Nat),0≤c→c≤100000→b5 K n S (r:Int) A out C idx list L1 L2 (m+1) c false=b5 K n S (r:Int) A out C idx list L1 L2 m (if cov A r c=true then c+1 else c) (!cov A r c):=by
    intro c m h0 h1
    simp only [b5,dG,Bool.not_false,if_true]
    have:=rp_l2 (K:=K) (n:=n) (S:=S) (r:=r) out C idx list hA hlA c ⟨h0,h1⟩ L1 L2 (b5 K n S (r:Int) A out C idx list L1 L2 m) n 0 true (by omega) (by omega)
    rw [show ((0:Nat):Int)=0 from rfl,List.drop_zero,Bool.true_and] at this
    rw [this]
    cases cov A r c<;>rfl
  intro k
  induction k with
  | zero =>
    intro c m hk hm h0 h1
    have hc:100000≤c:=by unfold fuel at hk; omega
    obtain ⟨m,rfl⟩:∃ j,m=j+1:=⟨m - 1,by omega⟩
    rw [stp c m h0 h1,hf c hc,if_neg (by decide),hk]
    exact ft c m (by omega) h0 h1
  | succ k ih =>
    intro c m hk hm h0 h1
    obtain ⟨m,rfl⟩:∃ j,m=j+1:=⟨m - 1,by omega⟩
    rw [stp c m h0 h1,hk]; simp only [nf]
    cases hc:cov A r c
    · rw [if_neg (by decide),if_neg (by decide)]
      exact ft c m (by omega) h0 h1
    · rw [if_pos rfl,if_pos rfl]
      have hlt:c<100000:=by unfold fuel at hk; omega
      have:=ih (c+1) m (by unfold fuel at hk ⊢; omega) (by omega) (by omega) (by omega)
      rw [show fuel (c+1)=k by unfold fuel at hk ⊢; omega] at this
      exact this
end
theorem rp_l5 {S:List (List Span)} (hS:Sp S) {r:Nat} (hr:r<S.length) (hn:200000<n) {A:List aa} (out:List (List aa)) (ho:out.length≤1000) (hA:Sm A) (hlA:A.length≤900) {E:Int} (hE:0≤E∧E≤50000) (hf:∀ x,E≤x→cov A r x=false)
    (L1:Int→Int→List aa→List (List aa)→Option ((List (List aa))×Int)):∀ (m i:Nat) (C col:Int) (list:List aa),i≤(S.getD r default).length→(S.getD r default).length<m+i→0≤col→max col E+100*(((S.getD r default).length - i:Nat):Int)≤90000→col≤90000→list.length≤i →
    cV K n S (r:Int) A out L1 m C col (i:Int) list=L1 (cmax C (cells S.length r (cov A r) ((S.getD r default).drop i) col)) ((r+1:Nat):Int) (A++(list++cells S.length r (cov A r) ((S.getD r default).drop i) col)) (out++[list++cells S.length r (cov A r) ((S.getD r default).drop i) col]):=by
  have hR:=hS.r; have hrow:=hS.at hr
  intro m
  induction m with
  | zero=>intro i C col list h1 h2; omega
  | succ m ih =>
    intro i C col list h1 h2 h3 h4 h6 h7
    simp only [cV,ed,tnat]
    rw [aN (by omega),sb]
    by_cases hi:i<(S.getD r default).length
    · rw [iteT (by omega)]
      have e:=rp_l4 (K:=K) (n:=n) (S:=S) (r:=r) (A:=A) out C (i:Int) list hS hr (by omega) hA (by omega) (by omega) hn (fun x hx=>hf x (by omega)) L1 (cV K n S (r:Int) A out L1 m) (fuel col) col n rfl (by unfold fuel; omega) h3 (by omega)
      rw [tnat] at e
      have g1:=dD (cov A r) (fuel col) col
      have g2:=nf_le hf (fuel col) col
      rw [e,List.drop_eq_getElem_cons hi,← bP hi]
      generalize hs:(S.getD r default).getD i default=s at *
      have hst:(((S.getD r default).length - i:Nat):Int)=(((S.getD r default).length - (i+1):Nat):Int)+1:=by omega
      have:=ih (i+1) (max C (nf (cov A r) (fuel col) col+min (max s.a1 1) 100)) (nf (cov A r) (fuel col) col+min (max s.a1 1) 100) (list++[mkp S.length r (nf (cov A r) (fuel col) col) s]) (by omega) (by omega) (by omega) (by omega) (by omega) (by simp; omega)
      rw [show (i:Int)+1=((i+1:Nat):Int) by omega,this]
      simp only [cells,List.append_assoc,List.singleton_append]
      rfl
    · obtain rfl:i=(S.getD r default).length:=by omega
      rw [iteF (by omega),List.drop_length,dF (by omega) (by omega),cG,dF (by simp; omega) (by omega),cG,wn (n:=(r:Int)+1) (k:=r+1) (by omega) (by omega)]
      simp [cells,cmax]
theorem rplaces_ok {S:List (List Span)} (hS:Sp S) (hn:200000<n):eg K n S=some (rw S S.length,col S S.length):=by
  have hR:=hS.r
  have loop:∀ (m r:Nat),r≤S.length→S.length<m+r→cQ K n S m (col S r) (r:Int) (abv S r) (rw S r)=some (rw S S.length,col S S.length):=by
    intro m
    induction m with
    | zero=>intro r h1 h2; omega
    | succ m ih =>
      intro r h1 h2
      simp only [cQ,eo]
      by_cases hr:r<S.length
      · have hu:=up hS r (by omega)
        have c0:=hu.c; have l0:=hu.l
        have hro:=hS.at hr
        have hA:Sm (abv S r):=fun p hp=>by have:=hu.p p hp; omega
        have e:=rp_l5 (K:=K) (n:=n) hS hr hn (A:=abv S r) (rw S r) (by rw [ct]; omega) hA (by omega) (E:=col S r) (by omega) (hu.free r) (cQ K n S m) n 0 (col S r) 0 [] (by omega) (by omega) (by omega) (by omega) (by omega) (by simp)
        rw [List.drop_zero,List.nil_append,show cells S.length r (cov (abv S r) r) (S.getD r default) 0=rowc S r from rfl,← fW,← di,← d9,show ((0:Nat):Int)=0 from rfl] at e
        rw [iteT (by omega),e]
        exact ih (r+1) (by omega) (by omega)
      · obtain rfl:r=S.length:=by omega
        rw [iteF (by omega)]
  unfold eg
  exact loop n 0 (by omega) (by omega)
end Go.Proofs.Ytolhpahjgddjkaa.Tb
namespace Go.Proofs.Ytolhpahjgddjkaa.QTablePlaces
set_option linter.all false
open Go.RowKit
open Tb
open QSort (wn aN iteT iteF sb)
set_option maxRecDepth 20000
theorem fit_ok (k:Nat):er (KN (k+12)) (k+12)=some true:=by kernel_rfl
theorem fit_ok' {n:Nat} (h:12≤n):er (KN n) n=some true:=by
  obtain ⟨k,rfl⟩:∃ k,n=k+12:=⟨n - 12,by omega⟩
  exact fit_ok k
variable {K:Kn} {n:Nat}
theorem q_refl (x:aa):bw x x=true:=by simp [bw]
theorem mem_all {S:List (List Span)} {r:Nat} (hr:r<S.length) {p:aa} (hp:p∈rowc S r):p∈abv S S.length:=by
  unfold abv
  refine List.mem_flatten.2 ⟨rowc S r,?_,hp⟩
  rw [←rw_at S hr,bP (by rw [ct]; exact hr)]
  exact List.getElem_mem _
theorem l5 {S:List (List Span)} (hS:Sp S) {r:Nat} (hr:r<S.length) (t:Nat) (ht:t≤100) (len:Int) (p:aa) (hc:cov (abv S r) r p.Col=false) (v6 v7:(List (List aa))×Int) (L2:Int→List aa→Option Bool) (L3:Int→Int→Option Bool):∀ (m j:Nat),j≤(abv S r).length→(abv S r).length<m+j →
    dc K n S v6 v7 (r:Int) (abv S r) len (t:Int) p L2 L3 m (j:Int)=L3 len ((t+1:Nat):Int):=by
  have hu:=up hS r (by omega)
  have hR:=hS.r; have c0:=hu.c; have l0:=hu.l
  intro m
  induction m with
  | zero=>intro j h1 h2; omega
  | succ m ih =>
    intro j h1 h2
    simp only [dc,d4]
    by_cases hj:j<(abv S r).length
    · have hq:(abv S r).getD j default∈abv S r:=by rw [bP hj]; exact List.getElem_mem _
      have hp:=hu.p _ hq
      have hcv:covp r p.Col ((abv S r).getD j default)=false:=by
        unfold cov at hc
        rw [List.any_eq_false] at hc
        have:=hc _ hq
        simpa using this
      rw [iteT (by omega),aN (by omega),tnat]
      generalize (abv S r).getD j default=q at *
      have hn4:cU K n S v6 v7 (r:Int) (abv S r) len (t:Int) p (j:Int) L2 L3 (dc K n S v6 v7 (r:Int) (abv S r) len (t:Int) p L2 L3 m) false=L3 len ((t+1:Nat):Int):=by
        unfold cU
        rw [if_neg (by decide),wn (n:=(j:Int)+1) (k:=j+1) (by omega) (by omega)]
        exact ih (j+1) (by omega) (by omega)
      rw [bg (n:=q.Row+q.Rows) (by omega) (by omega),bg (n:=q.Col+q.Cols) (by omega) (by omega)]
      by_cases k1:(r:Int)<q.Row+q.Rows
      · rw [iteT k1]
        by_cases k2:p.Col≥q.Col
        · rw [iteT k2]
          have:decide (p.Col<q.Col+q.Cols)=false:=by
            refine decide_eq_false (fun k3=>?_)
            unfold covp at hcv
            rw [decide_eq_true (show q.Row≤(r:Int) by omega),decide_eq_true k1,decide_eq_true (show q.Col≤p.Col by omega),decide_eq_true k3] at hcv
            cases hcv
          rw [this]; exact hn4
        · rw [iteF k2]; exact hn4
      · rw [iteF k1]; exact hn4
    · obtain rfl:j=(abv S r).length:=by omega
      rw [iteF (by omega),wn (n:=(t:Int)+1) (k:=t+1) (by omega) (by omega)]
theorem l6 {S:List (List Span)} (hS:Sp S) (hn:200000<n) {r:Nat} (hr:r<S.length) (L2:Int→List aa→Option Bool):∀ (m t:Nat),t≤(rowc S r).length→(rowc S r).length<m+t →
    cL K n S (rw S S.length,col S S.length) (rw S S.length,col S S.length) (r:Int) (abv S r) L2 m ((rowc S r).length:Int) (t:Int)=L2 ((r+1:Nat):Int) (abv S (r+1)):=by
  have hu:=up hS r (by omega)
  have hR:=hS.r; have c0:=hu.c; have l0:=hu.l; have hrow:=hS.at hr
  have rl:(rowc S r).length=(S.getD r default).length:=ew _ _ _ _ _
  have hall:=up hS S.length (by omega)
  have ca:=hall.c
  intro m
  induction m with
  | zero=>intro t h1 h2; omega
  | succ m ih =>
    intro t h1 h2
    simp only [cL,ez,tnat,rw_at S hr,ct]
    by_cases ht:t<(rowc S r).length
    · have hp:(rowc S r).getD t default∈rowc S r:=by rw [bP ht]; exact List.getElem_mem _
      have hpl:=(row_ok hS hr hu).1 _ hp
      have hpa:=hall.p _ (mem_all hr hp)
      have p1:=hpl.row; have p2:=hpl.rows; have p3:=hpl.down; have p4:=hpl.col; have p5:=hpl.cols; have p6:=hpl.right
      obtain ⟨ch1,ch2⟩:=iy (R:=S.length) (r:=r) (E:=col S r) (hu.free r) (by omega) (S.getD r default) 0 (by omega) t (by omega)
      rw [show cells S.length r (cov (abv S r) r) (S.getD r default) 0=rowc S r from rfl] at ch1 ch2
      rw [iteT (by omega),aN (by omega),sb,aN (by omega),aN (by omega),q_refl,Bool.not_true,if_neg (by decide),p1,bne_self_eq_false,if_neg (by decide)]
      rw [bg (n:=(r:Int)+_) (by omega) (by omega),bg (n:=((rowc S r).getD t default).Col+((rowc S r).getD t default).Cols) (by omega) (by omega),iteF (by omega),iteF (by omega)]
      have h3:ch K n S (rw S S.length,col S S.length) (rw S S.length,col S S.length) (r:Int) (abv S r) ((rowc S r).length:Int) (t:Int) ((rowc S r).getD t default) L2 (cL K n S (rw S S.length,col S S.length) (rw S S.length,col S S.length) (r:Int) (abv S r) L2 m) false=L2 ((r+1:Nat):Int) (abv S (r+1)):=by
        unfold ch
        rw [if_neg (by decide)]
        have:=l5 (K:=K) (n:=n) hS hr t (by omega) ((rowc S r).length:Int) ((rowc S r).getD t default) ch1 (rw S S.length,col S S.length) (rw S S.length,col S S.length) L2 (cL K n S (rw S S.length,col S S.length) (rw S S.length,col S S.length) (r:Int) (abv S r) L2 m) n 0 (by omega) (by omega)
        rw [show ((0:Nat):Int)=0 from rfl] at this
        rw [this]
        exact ih (t+1) (by omega) (by omega)
      by_cases h0:(t:Int)>0
      · have hq:(rowc S r).getD (t - 1) default∈rowc S r:=by rw [bP (by omega)]; exact List.getElem_mem _
        have hql:=(row_ok hS hr hu).1 _ hq
        have q4:=hql.col; have q5:=hql.cols; have q6:=hql.right
        have c2:=ch2 (by omega)
        rw [iteT h0,wn (n:=(t:Int) - 1) (k:=t - 1) (by omega) (by omega),aN (by omega),aN (by omega),tnat,bg (n:=((rowc S r).getD (t - 1) default).Col+((rowc S r).getD (t - 1) default).Cols) (by omega) (by omega),decide_eq_false (show ¬ ((rowc S r).getD t default).Col<((rowc S r).getD (t - 1) default).Col+((rowc S r).getD (t - 1) default).Cols by omega)]
        exact h3
      · rw [iteF h0]; exact h3
    · obtain rfl:t=(rowc S r).length:=by omega
      rw [iteF (by omega),dF (by omega) (by omega),cG,wn (n:=(r:Int)+1) (k:=r+1) (by omega) (by omega),di]
theorem l7 {S:List (List Span)} (hS:Sp S) (hn:200000<n):∀ (m r:Nat),r≤S.length→S.length<m+r →
    cX K n S (rw S S.length,col S S.length) (rw S S.length,col S S.length) m (r:Int) (abv S r)=some true:=by
  have hR:=hS.r
  intro m
  induction m with
  | zero=>intro r h1 h2; omega
  | succ m ih =>
    intro r h1 h2
    simp only [cX,ey,ct,tnat]
    by_cases hr:r<S.length
    · have hrow:=hS.at hr
      have rl:(rowc S r).length=(S.getD r default).length:=ew _ _ _ _ _
      rw [iteT (by omega),aN (by omega),aN (by omega),bne_self_eq_false,sb,if_neg (by decide),rw_at S hr]
      have:=l6 (K:=K) (n:=n) hS hn hr (cX K n S (rw S S.length,col S S.length) (rw S S.length,col S S.length) m) n 0 (by omega) (by omega)
      rw [show ((0:Nat):Int)=0 from rfl] at this
      rw [this]
      exact ih (r+1) (by omega) (by omega)
    · rw [iteF (by omega)]
theorem holds (x0:List (List (V2 Int))) (h0:HasT Try.prog 22 ((eSl (eSl (eV2 (eInt .i64)))) x0)):∃ n,fi (KN n) n x0=some true:=by
  refine ⟨200020,?_⟩
  unfold fi
  rw [fit_ok' (by omega),sb,Bool.not_true,if_neg (by decide)]
  by_cases hl:(x0.length:Int)>10
  · rw [iteT hl]
  rw [iteF hl]
  have l1:∀ (m i:Nat),i≤x0.length→x0.length<m+i→(∀ k,k<i→(x0.getD k default).length≤8)→dH (KN 200020) 200020 x0 m (i:Int)=some true:=by
    intro m
    induction m with
    | zero=>intro i h1 h2; omega
    | succ m ih =>
      intro i h1 h2 hk
      simp only [dH,ef]
      by_cases hi:i<x0.length
      · rw [iteT (by omega),aN (by omega),sb,tnat]
        by_cases h8:((x0.getD i default).length:Int)>8
        · rw [iteT h8]
        · rw [iteF h8,wn (n:=(i:Int)+1) (k:=i+1) (by omega) (by omega)]
          refine ih (i+1) (by omega) (by omega) (fun k hk2=>?_)
          by_cases e:k=i
          · subst e; omega
          · exact hk k (by omega)
      · obtain rfl:i=x0.length:=by omega
        have hS:Sp x0:=⟨by omega,fun row hrow=>by
          obtain ⟨k,hk2,rfl⟩:=List.mem_iff_getElem.1 hrow
          have:=hk k hk2
          rw [bP hk2] at this; omega⟩
        rw [iteF (by omega),places_ok hS (by omega),sb,rplaces_ok hS (by omega),sb,bne_self_eq_false,if_neg (by decide),bne_self_eq_false]
        unfold eA
        rw [if_neg (by decide)]
        exact l7 hS (by omega) 200020 0 (by omega) (by omega)
  exact l1 200020 0 (by omega) (by omega) (fun k hk=>by omega)
end Go.Proofs.Ytolhpahjgddjkaa.QTablePlaces

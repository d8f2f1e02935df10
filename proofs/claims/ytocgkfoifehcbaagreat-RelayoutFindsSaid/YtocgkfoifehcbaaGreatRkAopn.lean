/- From the reading of an argument as data to its abstract value; and the frame of a law's row. No program in sight. -/
import Derived.Test.YtocgkfoifehcbaaGreatRkAdrw
import Derived.ChangeArms
namespace Go.Proofs.YtocgkfoifehcbaaGreat
set_option linter.all false
open Go.ChangeShapes Go.WideShapes Go.ChangeAt Go.RowKit
def DO:=@List.drop_zero
def akP:=@List.length_pos_iff
def ak9:=@List.sum_cons
def aly:=@beq_eq_false_iff_ne
def al0:=@List.sum_replicate_nat
inductive cV (P:Program):TypeId→c6→Prop
 | bool t b (h:P.underlying t=some .bool):cV P t [.bool b]
 | int t k n (h:P.underlying t=some (.int k)) (hw:(Lit.int k n).wf=true):cV P t [.int k n]
 | str t s (h:P.underlying t=some .string) (hs:s.size≤maxLen):cV P t [.str s]
 | sl t e l (h:P.underlying t=some (.slice e)) (hl:l.length≤maxLen) (hz:∀c∈l,c.length=P.cellsOf e) (hc:∀c∈l,cV P e c):cV P t [.sl l]
 | struct t fs (parts:hZ) (h:P.underlying t=some (.struct fs)) (hl:parts.length=fs.size)
   (hp:∀(i:Nat) (f:Field) (c:c6),fs[i]?=some f→parts[i]?=some c→cV P f.type c):cV P t parts.flatten
 | array t e n (parts:hZ) (h:P.underlying t=some (.array n e)) (hl:parts.length=n)
   (hp:∀(c:c6),c∈parts→cV P e c):cV P t parts.flatten
def ta(P:Program)(ts:List TypeId)(t:TypeId):Bool :=
 match P.underlying t with
 | some .bool|some (.int _)|some .string=>true
 | some (.slice e)=>ts.contains e&&!(P.cellsOf e == 0)
 | some (.struct a)=>(a.toList.map fun f=>P.cellsOf f.type).sum == P.cellsOf t &&
   (List.range a.size).all fun i=>match a[i]? with|some f=>ts.contains f.type&&f.offset == ((a.toList.take i).map fun f=>P.cellsOf f.type).sum|none=>false
 | some (.array n e)=>ts.contains e&&P.cellsOf t == n*P.cellsOf e
 | _=>false
def Vh(P:Program)(ts:List TypeId):Bool:=ts.all fun t=>ta P ts t
theorem B8{α:Type}{p:Nat→α→Prop}:∀n,(∀i,i<n→∃a,p i a)→∃l:List α,l.length=n∧∀i a,l[i]?=some a→p i a
 | 0,_=>⟨[],rfl,fun i a h=>by grind⟩
 | n+1,h=>by
  obtain⟨l,c,d⟩:=B8 (p:=p) n (fun i g=>h i (by omega));obtain⟨a,e⟩:=h n (by omega);refine⟨l++[a],by grind,fun i b f=>?_⟩
  grind
theorem Cells.append{N:Nat→Prop}{w:World}{ι:Env}{a b:c6}{x y:ee}(h:Cells N w ι a x)(g:Cells N w ι b y):Cells N w ι (a++b) (x++y):=by
 refine⟨by simp[h.len,g.len],fun v d=>?_,fun i c v e d=>?_⟩
 ·rcases n5.1 d with d|d
  ·exact h.one v d
  ·exact g.one v d
 ·by_cases f:i<a.length
  ·rw[z3 f]at e;rw[z3 (by rw[←h.len];grind)]at d;exact h.rel i c v e d
  ·rw[Dj (by omega)]at e;rw[Dj (by rw[←h.len];omega),← h.len]at d;exact g.rel _ c v e d
theorem KQ{N:Nat→Prop}{w:World}{ι:Env}:∀(a:eb) (parts:hZ) (cs:ee) (off:Nat),parts.length=a.length→off+a.sum≤cs.length →
  (∀(i:Nat) (c:c6) (n:Nat),parts[i]?=some c→a[i]?=some n→Cells N w ι c ((cs.drop (off+(a.take i).sum)).take n))→Cells N w ι parts.flatten ((cs.drop off).take a.sum)
 | [],parts,cs,off,b,_,_=>by
  have:parts=[]:=n3 (by simpa using b);subst this;simp only[List.flatten_nil,List.sum_nil,akw];exact⟨rfl,fun v l=>(by cases l),fun i c v d _=>by simp at d⟩
 | n::a,[],cs,off,b,_,_=>by simp at b
 | n::a,p::parts,cs,off,b,k,h=>by
  have f:=h 0 p n rfl rfl;simp only[akw,List.sum_nil,akF]at f;simp only[ak9]at k⊢;have g:=KQ a parts cs (off+n) (by simpa using b) (by omega) (fun i c m d j=>by
   have:=h (i+1) c m (by simpa using d) (by simpa using j);simp only[List.take_succ_cons,ak9]at this;rw[show off+n+(a.take i).sum=off+(n+(a.take i).sum) by omega];exact this)
  have e:(cs.drop off).take (n+a.sum)=(cs.drop off).take n++(cs.drop (off+n)).take a.sum:=by
   rw[List.take_add,akJ]
  rw[e,List.flatten_cons];exact f.append g
def ic:Nat→Prop:=fun _=>False
section
variable{H:Type}{enc:TypeId×Value→H}{P:Program}{w:World}{base:Nat}{d:Nat→Bool}{g:Bool}{ts:List TypeId}
theorem aeu(r0:Vh P ts=true):∀(B:Nat) (t:TypeId) (cs:ee) (x:DataW H×List MemPlace),ts.contains t=true→DataW.trod enc P w base d g B t cs=some x→∃as,cV P t as∧Cells ic w bG as cs:=by
 intro B
 induction B with
 | zero=>intro t cs x _ h;simp[DataW.trod]at h
 | succ B ih =>
  intro t cs x ht h;have R:ta P ts t=true:=ne.1 r0 t (by simpa using ht);unfold ta at R;have O:∀{a:AV} {v:Value},Rel ic w bG a v→v.oneCell'=true→Cells ic w bG [a] [v]:=fun hr ho =>
   ⟨rfl,fun u q=>by simp at q;subst q;exact ho,fun i c u p q=>by
    cases i with
    | zero=>simp at p q;subst p;subst q;exact hr
    | succ i=>simp at p⟩
  split at R
  ·rename_i q;obtain⟨b,rfl,_⟩:=DataW.trod_bool q h;exact⟨_,.bool t b q,O (.bool _ _) rfl⟩
  ·rename_i k q;obtain⟨n,rfl,_,hw⟩:=DataW.trod_int q h;exact⟨_,.int t k n q hw,O (.int _ _ _) rfl⟩
  ·rename_i q;obtain⟨s,rfl,_,hs⟩:=DataW.trod_string q h;exact⟨_,.str t s q hs,O (.str _ _) rfl⟩
  ·rename_i e q;simp only[iN,By,aly,ne_eq]at R;obtain⟨R,q0⟩:=R;obtain⟨rfl,_⟩|⟨a,Z,i0,k0,w0,n,C,rfl,_,hb,A0,t0,x0,A,_⟩:=DataW.trod_slice q h
   ·exact⟨_,.sl t e [] q (by simp[maxLen]) (fun c p=>by cases p) (fun c p=>by cases p),O (.sl0 _ _ _) rfl⟩
   ·injection C with C;subst C
    have z:∀i,i<Z→∃as,(cV P e as∧as.length=P.cellsOf e)∧∃vs,w.cells? base (a.add (i*P.cellsOf e)) (P.cellsOf e)=some vs∧Cells ic w bG as vs:=fun i r=>by
     have G:=A i r;rw[jt (by omega)]at G;cases p:w.cells? base (a.add (i*P.cellsOf e)) (P.cellsOf e) with
     | none=>rw[p]at G;cases G
     | some vs =>
      rw[p]at G;obtain⟨as,S,T⟩:=ih e vs _ R G;exact⟨as,⟨S,by rw[T.len];exact(World.cells?_some p).2.1⟩,vs,rfl,T⟩
    obtain⟨l,b0,J⟩:=B8 Z z;refine⟨[.sl l],.sl t e l q (by omega) (fun c p=>?_) (fun c p=>?_),O ?_ rfl⟩
    ·obtain⟨i,r,rfl⟩:=ajz.1 p;exact(J i _ (jt r)).1.2
    ·obtain⟨i,r,rfl⟩:=ajz.1 p;exact(J i _ (jt r)).1.1
    ·by_cases h0:l=[]
     ·subst h0;have:Z=0:=by simpa using b0.symm
      subst this;exact .sl0 _ _ _
     ·by_cases hz:P.cellsOf e=0
      ·exact(q0 hz).elim
      ·have d0:0<l.length:=akP.2 h0;have y:∀j as,l[j]?=some as→∀i c,as[i]?=some c→∃v,w.cell? ((a.add (j*P.cellsOf e)).add i)=some v∧v.oneCell'=true∧Rel ic w bG c v:=fun j as hj i c p=>by
        obtain⟨⟨_,I⟩,vs,s0,a0⟩:=J j as hj;obtain⟨_,T,g3⟩:=World.cells?_some s0;have r:i<P.cellsOf e:=by rw[←I];exact(jf.1 p).1
        have hv:=jt (l:=vs) (i:=i) (by omega);exact⟨_,(g3 i r).trans hv,a0.one _ (ob _),a0.rel i c _ p hv⟩
       obtain⟨F,X⟩:∃F,l[0]?=some F:=⟨_,jt d0⟩;have y0:=(J 0 F X).1.2;obtain⟨c0,m0⟩:∃c0,F[0]?=some c0:=⟨_,jt (by omega)⟩;obtain⟨v0,V,_,_⟩:=y 0 F X 0 c0 m0;have M:a.spot=none:=by
        have ea:(a.add (0*P.cellsOf e)).add 0=a:=by simp[Addr.add]
        rw[ea]at V;cases hs:a.spot with
        | none=>rfl
        | some s =>
         unfold World.cell? at V;split at V
         ·rw[hs]at V;simp at V
         ·cases V
       obtain⟨b,o,s⟩:=a;simp only at M;subst M;have l0:b<w.heap.size:=by
        have ea:((⟨b,o,none⟩:Addr).add (0*P.cellsOf e)).add 0=⟨b,o,none⟩:=by simp[Addr.add]
        rw[ea]at V;exact block_lt_of_cell V
       have f0:=Rel.sl (N:=ic) (w:=w) bG l b o i0 (P.cellsOf e) (fun j i=>match w.cell? ⟨b,o+j*P.cellsOf e+i,none⟩ with|some v=>(if v.oneCell'=true then v else .bool true)|none=>.bool true)
        (fun c p=>by
         obtain⟨i,r,rfl⟩:=ajz.1 p;exact(J i _ (jt r)).1.2) l0 (fun h=>h)
        (fun j i=>by split<;>(try split)<;>first|assumption|rfl)
        (fun j as hj i c p=>by
         obtain⟨v,S,T,_⟩:=y j as hj i c p;rw[aix,aix]at S;simp only[S,T,zt])
        (fun j as hj i c p=>by
         obtain⟨v,S,T,g3⟩:=y j as hj i c p;rw[aix,aix]at S;simp only[S,T,zt];exact g3) (by omega)
       rw[b0]at f0;exact f0
  ·rename_i Q q;simp only[iN,agA,ne,aa8]at R;obtain⟨g0,W⟩:=R;obtain⟨xs,n,C,_,hl,I,A⟩:=DataW.trod_struct q h;injection C with C;subst C
   have z:∀i,i<Q.size→∃as,∀f,Q[i]?=some f→cV P f.type as∧Cells ic w bG as ((cs.drop f.offset).take (P.cellsOf f.type)):=fun i r=>by
    have D:=la (xs:=Q) r;have G:=A i _ D;rw[jt (by omega)]at G;have Y:=W i r;rw[D]at Y;simp only[iN]at Y;obtain⟨as,S,T⟩:=ih _ _ _ Y.1 G;exact⟨as,fun f U=>by rw[D]at U;injection U with U;subst U;exact⟨S,T⟩⟩
   obtain⟨parts,E,L⟩:=B8 Q.size z;refine⟨parts.flatten,.struct t Q parts q E (fun i f c C p=>(L i c p f C).1),?_⟩;have:=KQ (N:=ic) (w:=w) (ι:=bG) (Q.toList.map fun f=>P.cellsOf f.type) parts cs 0 (by simp[E]) (by omega) (fun i c m p K=>by
    rw[AT]at K;have r:i<Q.size:=by rw[←E];exact(jf.1 p).1
    have D:=la (xs:=Q) r;have p0:Q.toList[i]?=some Q[i]:=by simp
    rw[p0]at K;simp only[aaU,rv]at K;subst K;have Y:=W i r;rw[D]at Y;simp only[iN,agA]at Y;have:=(L i c p _ D).2;rw[Y.2]at this;rw[Dy,← List.map_take];exact this)
   rw[DO,g0,Dz (by omega)]at this;exact this
  ·rename_i n e q;simp only[iN,agA]at R;obtain⟨he,o0⟩:=R;obtain⟨xs,m,C,_,hl,I,A⟩:=DataW.trod_array q h;injection C with C;subst C
   have z:∀i,i<n→∃as,cV P e as∧Cells ic w bG as ((cs.drop (i*P.cellsOf e)).take (P.cellsOf e)):=fun i r=>by
    have G:=A i r;rw[jt (by omega)]at G;exact ih _ _ _ he G
   obtain⟨parts,E,L⟩:=B8 n z;refine⟨parts.flatten,.array t e n parts q E (fun c p=>?_),?_⟩
   ·obtain⟨i,r,rfl⟩:=ajz.1 p;exact(L i _ (jt r)).1
   ·have:=KQ (N:=ic) (w:=w) (ι:=bG) (List.replicate n (P.cellsOf e)) parts cs 0 (by simp[E]) (by simp;omega) (fun i c m p K=>by
     rw[akN]at K;split at K
     ·injection K with K;subst K
      rename_i r;have:=(L i c p).2;rw[Dy,List.take_replicate,Nat.min_eq_left (by omega),al0];exact this
     ·cases K)
    rw[DO,al0,← o0,Dz (by omega)]at this;exact this
  grind
end
theorem Wc{N:Nat→Prop}{w:World}{as:c6}{v:Value}(h:Cells N w bG as v.cells.toList):(∃cs,v=.agg cs)∨∃a,as=[a]∧Rel N w bG a v:=by
 cases v with
 | agg cs=>grind
 | _ =>
  right
  match as,h.len with
  | [a],_=>exact⟨a,rfl,h.rel 0 a _ rfl rfl⟩
section
variable{P:Program}
theorem cV.gen{t}{cs}(h:cV P t cs):match P.underlying t with
  | some .bool=>∃b,cs=[.bool b]
  | some (.int k)=>∃n,cs=[.int k n]∧(Lit.int k n).wf=true
  | some .string=>∃s:ByteArray,cs=[.str s]∧s.size≤maxLen
  | some (.slice e)=>∃l,cs=[.sl l]∧l.length≤maxLen∧(∀c∈l,c.length=P.cellsOf e)∧∀c∈l,cV P e c
  | some (.struct a)=>∃parts:hZ,cs=parts.flatten∧parts.length=a.size∧∀(i:Nat) f c,a[i]?=some f→parts[i]?=some c→cV P f.type c
  | some (.array n e)=>∃parts:hZ,cs=parts.flatten∧parts.length=n∧∀c∈parts,cV P e c
  | _=>False:=by
 cases h with
 | bool _ b h=>grind
 | int _ k n h o=>grind
 | str _ s h m=>grind
 | sl _ e l h d p j=>grind
 | struct _ a parts h d g=>grind
 | array _ e n parts h d g=>grind
theorem cV.int_inv{t}{k}{cs}(a:P.underlying t=some (.int k))(h:cV P t cs):∃n,cs=[.int k n]∧(Lit.int k n).wf=true:=by have:=h.gen;grind
theorem cV.bool_inv{t}{cs}(a:P.underlying t=some .bool)(h:cV P t cs):∃b,cs=[.bool b]:=by have:=h.gen;grind
theorem cV.str_inv{t}{cs}(a:P.underlying t=some .string)(h:cV P t cs):∃s:ByteArray,cs=[.str s]∧s.size≤maxLen:=by have:=h.gen;grind
theorem cV.sl_inv{t e}{cs}(a:P.underlying t=some (.slice e))(h:cV P t cs):∃l,cs=[.sl l]∧l.length≤maxLen∧(∀c∈l,c.length=P.cellsOf e)∧∀c∈l,cV P e c:=by have:=h.gen;grind
inductive KA where
 | int (k:IntKind)
 | str
 | bool
def KA.fits:KA→AV→Prop
 | .int k,a=>∃n,a=.int k n∧(Lit.int k n).wf=true
 | .str,a=>∃s:ByteArray,a=.str s∧s.size≤maxLen
 | .bool,a=>∃b,a=.bool b
def na:List KA→c6→Prop
 | [],[]=>True
 | k::b,a::as=>k.fits a∧na b as
 | _,_=>False
theorem na.append:∀{a b} {x y},na a x→na b y→na (a++b) (x++y)
 | [],_,[],_,_,h=>h
 | [],_,_::_,_,h,_=>h.elim
 | _::_,_,[],_,h,_=>h.elim
 | k::c,_,a::as,_,h,g=>⟨h.1,na.append h.2 g⟩
def t8(P:Program):Nat→TypeId→Option (List KA)
 | 0,_=>none
 | d+1,t=>match P.underlying t with
  | some .bool=>some [.bool]
  | some (.int k)=>some [.int k]
  | some .string=>some [.str]
  | some (.struct a)=>(a.toList.mapM fun f=>t8 P d f.type).map List.flatten
  | some (.array n e)=>(t8 P d e).map fun l=>(List.replicate n l).flatten
  | _=>none
theorem KJ:∀{a:List (List KA)} {parts:hZ},parts.length=a.length→(∀(i:Nat) b c,a[i]?=some b→parts[i]?=some c→na b c)→na a.flatten parts.flatten
 | [],[],_,_=>trivial
 | [],_::_,h,_=>by grind
 | _::_,[],h,_=>by grind
 | b::a,c::parts,h,g=>by
  exact(g 0 b c rfl rfl).append (KJ (by grind) (fun i ks' d e f=>g (i+1) ks' d (by grind) (by grind)))
theorem cV.flat:∀{d:Nat} {t:TypeId} {cs:c6} {r:List KA},cV P t cs→t8 P d t=some r→na r cs
 | 0,_,_,_,_,h=>by cases h
 | d+1,t,cs,r,h,a=>by
  have g:=h.gen;unfold t8 at a;split at a
  ·rename_i j;rw[j]at g;obtain⟨b,rfl⟩:=g;injection a with a;subst a;exact⟨⟨b,rfl⟩,trivial⟩
  ·rename_i k j;rw[j]at g;obtain⟨n,rfl,C⟩:=g;injection a with a;subst a;exact⟨⟨n,rfl,C⟩,trivial⟩
  ·rename_i j;rw[j]at g;obtain⟨s,rfl,B⟩:=g;injection a with a;subst a;exact⟨⟨s,rfl,B⟩,trivial⟩
  ·rename_i p j;rw[j]at g;obtain⟨parts,rfl,v,y⟩:=g;cases o:p.toList.mapM (fun f=>t8 P d f.type) with
   | none=>rw[o]at a;cases a
   | some D =>
    rw[o]at a;injection a with a;subst a
    have q:=mapM_some_length o;refine KJ (by rw[v,q];simp) (fun i r c m u=>?_);have A:i<p.size:=by rw[←v];exact(jf.1 u).1
    have w:=la (xs:=p) A;have x:p.toList[i]?=some p[i]:=by simp
    have z:=mapM_some_get o i p[i] x;rw[m]at z;exact(y i _ c w u).flat z
  ·rename_i n e j;rw[j]at g;obtain⟨parts,rfl,v,y⟩:=g;cases o:t8 P d e with
   | none=>rw[o]at a;cases a
   | some l =>
    rw[o]at a;injection a with a;subst a
    refine KJ (by simp[v]) (fun i r c m u=>?_);rw[akN]at m;split at m
    ·injection m with m;subst m
     exact(y c (mm u)).flat o
    ·cases m
  ·cases a
end
end Go.Proofs.YtocgkfoifehcbaaGreat

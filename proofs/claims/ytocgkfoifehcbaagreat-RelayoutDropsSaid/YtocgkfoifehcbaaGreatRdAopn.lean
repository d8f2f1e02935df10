/- From the reading of an argument as data to its abstract value; and the frame of a law's row. No program in sight. -/
import Derived.Test.YtocgkfoifehcbaaGreatRdAdrw
import Derived.ChangeArms
namespace Go.Proofs.YtocgkfoifehcbaaGreat
set_option linter.all false
open Go.ChangeShapes Go.WideShapes Go.ChangeAt Go.RowKit
def DO:=@List.drop_zero
def alF:=@List.sum_cons
def amw:=@List.sum_replicate_nat
inductive cX (P:Program):TypeId→c6→Prop
 | bool t b (h:P.underlying t=some .bool):cX P t [.bool b]
 | int t k n (h:P.underlying t=some (.int k)) (hw:(Lit.int k n).wf=true):cX P t [.int k n]
 | str t s (h:P.underlying t=some .string) (hs:s.size≤maxLen):cX P t [.str s]
 | sl t e l (h:P.underlying t=some (.slice e)) (hl:l.length≤maxLen) (hz:∀c∈l,c.length=P.cellsOf e) (hc:∀c∈l,cX P e c):cX P t [.sl l]
 | struct t fs (parts:h6) (h:P.underlying t=some (.struct fs)) (hl:parts.length=fs.size)
   (hp:∀(i:Nat) (f:Field) (c:c6),fs[i]?=some f→parts[i]?=some c→cX P f.type c):cX P t parts.flatten
 | array t e n (parts:h6) (h:P.underlying t=some (.array n e)) (hl:parts.length=n)
   (hp:∀(c:c6),c∈parts→cX P e c):cX P t parts.flatten
def sd(P:Program)(ts:List TypeId)(t:TypeId):Bool :=
 match P.underlying t with
 | some .bool|some (.int _)|some .string=>true
 | some (.slice e)=>ts.contains e&&!(P.cellsOf e == 0)
 | some (.struct a)=>(a.toList.map fun f=>P.cellsOf f.type).sum == P.cellsOf t &&
   (List.range a.size).all fun i=>match a[i]? with|some f=>ts.contains f.type&&f.offset == ((a.toList.take i).map fun f=>P.cellsOf f.type).sum|none=>false
 | some (.array n e)=>ts.contains e&&P.cellsOf t == n*P.cellsOf e
 | _=>false
def Lf(P:Program)(ts:List TypeId):Bool:=ts.all fun t=>sd P ts t
theorem Bv{α:Type}{p:Nat→α→Prop}:∀n,(∀i,i<n→∃a,p i a)→∃l:List α,l.length=n∧∀i a,l[i]?=some a→p i a
 | 0,_=>⟨[],rfl,fun i a h=>by grind⟩
 | n+1,h=>by
  obtain⟨l,c,d⟩:=Bv (p:=p) n (fun i hi=>h i (by omega));obtain⟨a,e⟩:=h n (by omega);refine⟨l++[a],by grind,fun i b f=>?_⟩
  grind
theorem Cells.append{N:Nat→Prop}{w:World}{ι:Env}{a b:c6}{x y:eg}(h:Cells N w ι a x)(g:Cells N w ι b y):Cells N w ι (a++b) (x++y):=by
 refine⟨by simp[h.len,g.len],fun v d=>?_,fun i c v e d=>?_⟩
 ·rcases n5.1 d with d|d
  ·exact h.one v d
  ·exact g.one v d
 ·by_cases hi:i<a.length
  ·rw[zt hi]at e;rw[zt (by rw[←h.len];grind)]at d;exact h.rel i c v e d
  ·rw[z3 (by omega)]at e;rw[z3 (by rw[←h.len];omega),← h.len]at d;exact g.rel _ c v e d
theorem H7{N:Nat→Prop}{w:World}{ι:Env}:∀(a:ed) (parts:h6) (cs:eg) (off:Nat),parts.length=a.length→off+a.sum≤cs.length →
  (∀(i:Nat) (c:c6) (n:Nat),parts[i]?=some c→a[i]?=some n→Cells N w ι c ((cs.drop (off+(a.take i).sum)).take n))→Cells N w ι parts.flatten ((cs.drop off).take a.sum)
 | [],parts,cs,off,b,_,_=>by
  have:parts=[]:=qk (by simpa using b);subst this;simp only[List.flatten_nil,List.sum_nil,ak6];exact⟨rfl,fun v l=>(by cases l),fun i c v d _=>by simp at d⟩
 | n::a,[],cs,off,b,_,_=>by simp at b
 | n::a,p::parts,cs,off,b,k,h=>by
  have f:=h 0 p n rfl rfl;simp only[ak6,List.sum_nil,ak5]at f;simp only[alF]at k⊢;have g:=H7 a parts cs (off+n) (by simpa using b) (by omega) (fun i c m d j=>by
   have:=h (i+1) c m (by simpa using d) (by simpa using j);simp only[List.take_succ_cons,alF]at this;rw[show off+n+(a.take i).sum=off+(n+(a.take i).sum) by omega];exact this)
  have e:(cs.drop off).take (n+a.sum)=(cs.drop off).take n++(cs.drop (off+n)).take a.sum:=by
   rw[List.take_add,akY]
  rw[e,List.flatten_cons];exact f.append g
def ic:Nat→Prop:=fun _=>False
section
variable{H:Type}{enc:TypeId×Value→H}{P:Program}{w:World}{base:Nat}{d:Nat→Bool}{g:Bool}{ts:List TypeId}
theorem aeJ(q0:Lf P ts=true):∀(A:Nat) (t:TypeId) (cs:eg) (x:DataW H×List MemPlace),ts.contains t=true→DataW.trod enc P w base d g A t cs=some x→∃as,cX P t as∧Cells ic w bH as cs:=by
 intro A
 induction A with
 | zero=>intro t cs x _ h;simp[DataW.trod]at h
 | succ A ih =>
  intro t cs x ht h;have Q:sd P ts t=true:=n3.1 q0 t (by simpa using ht);unfold sd at Q;have M:∀{a:AV} {v:Value},Rel ic w bH a v→v.oneCell'=true→Cells ic w bH [a] [v]:=fun hr ho =>
   ⟨rfl,fun u q=>by simp at q;subst q;exact ho,fun i c u p q=>by
    cases i with
    | zero=>simp at p q;subst p;subst q;exact hr
    | succ i=>simp at p⟩
  split at Q
  ·rename_i q;obtain⟨b,rfl,_⟩:=DataW.trod_bool q h;exact⟨_,.bool t b q,M (.bool _ _) rfl⟩
  ·rename_i k q;obtain⟨n,rfl,_,hw⟩:=DataW.trod_int q h;exact⟨_,.int t k n q hw,M (.int _ _ _) rfl⟩
  ·rename_i q;obtain⟨s,rfl,_,hs⟩:=DataW.trod_string q h;exact⟨_,.str t s q hs,M (.str _ _) rfl⟩
  ·rename_i e q;simp only[iO,acM,beq_eq_false_iff_ne,ne_eq]at Q;obtain⟨Q,p0⟩:=Q;obtain⟨rfl,_⟩|⟨a,Y,g0,i0,t0,n,B,rfl,_,hb,y0,s0,w0,z,_⟩:=DataW.trod_slice q h
   ·exact⟨_,.sl t e [] q (by simp[maxLen]) (fun c p=>by cases p) (fun c p=>by cases p),M (.sl0 _ _ _) rfl⟩
   ·injection B with B;subst B
    have y:∀i,i<Y→∃as,(cX P e as∧as.length=P.cellsOf e)∧∃vs,w.cells? base (a.add (i*P.cellsOf e)) (P.cellsOf e)=some vs∧Cells ic w bH as vs:=fun i hi=>by
     have F:=z i hi;rw[j3 (by omega)]at F;cases p:w.cells? base (a.add (i*P.cellsOf e)) (P.cellsOf e) with
     | none=>rw[p]at F;cases F
     | some vs =>
      rw[p]at F;obtain⟨as,R,S⟩:=ih e vs _ Q F;exact⟨as,⟨R,by rw[S.len];exact(World.cells?_some p).2.1⟩,vs,rfl,S⟩
    obtain⟨l,a0,I⟩:=Bv Y y;refine⟨[.sl l],.sl t e l q (by omega) (fun c p=>?_) (fun c p=>?_),M ?_ rfl⟩
    ·obtain⟨i,hi,rfl⟩:=akV.1 p;exact(I i _ (j3 hi)).1.2
    ·obtain⟨i,hi,rfl⟩:=akV.1 p;exact(I i _ (j3 hi)).1.1
    ·by_cases h0:l=[]
     ·subst h0;have:Y=0:=by simpa using a0.symm
      subst this;exact .sl0 _ _ _
     ·by_cases hz:P.cellsOf e=0
      ·exact(p0 hz).elim
      ·have b0:0<l.length:=List.length_pos_iff.2 h0;have r:∀j as,l[j]?=some as→∀i c,as[i]?=some c→∃v,w.cell? ((a.add (j*P.cellsOf e)).add i)=some v∧v.oneCell'=true∧Rel ic w bH c v:=fun j as hj i c p=>by
        obtain⟨⟨_,G⟩,vs,r0,Z⟩:=I j as hj;obtain⟨_,S,g3⟩:=World.cells?_some r0;have hi:i<P.cellsOf e:=by rw[←G];exact(jt.1 p).1
        have hv:=j3 (l:=vs) (i:=i) (by omega);exact⟨_,(g3 i hi).trans hv,Z.one _ (qv _),Z.rel i c _ p hv⟩
       obtain⟨E,W⟩:∃E,l[0]?=some E:=⟨_,j3 b0⟩;have x0:=(I 0 E W).1.2;obtain⟨c0,l0⟩:∃c0,E[0]?=some c0:=⟨_,j3 (by omega)⟩;obtain⟨v0,U,_,_⟩:=r 0 E W 0 c0 l0;have L:a.spot=none:=by
        have ea:(a.add (0*P.cellsOf e)).add 0=a:=by simp[Addr.add]
        rw[ea]at U;cases hs:a.spot with
        | none=>rfl
        | some s =>
         unfold World.cell? at U;split at U
         ·rw[hs]at U;simp at U
         ·cases U
       obtain⟨b,o,s⟩:=a;simp only at L;subst L;have k0:b<w.heap.size:=by
        have ea:((⟨b,o,none⟩:Addr).add (0*P.cellsOf e)).add 0=⟨b,o,none⟩:=by simp[Addr.add]
        rw[ea]at U;exact block_lt_of_cell U
       have d0:=Rel.sl (N:=ic) (w:=w) bH l b o g0 (P.cellsOf e) (fun j i=>match w.cell? ⟨b,o+j*P.cellsOf e+i,none⟩ with|some v=>(if v.oneCell'=true then v else .bool true)|none=>.bool true)
        (fun c p=>by
         obtain⟨i,hi,rfl⟩:=akV.1 p;exact(I i _ (j3 hi)).1.2) k0 (fun h=>h)
        (fun j i=>by split<;>(try split)<;>first|assumption|rfl)
        (fun j as hj i c p=>by
         obtain⟨v,R,S,_⟩:=r j as hj i c p;rw[akR,akR]at R;simp only[R,S,AT])
        (fun j as hj i c p=>by
         obtain⟨v,R,S,g3⟩:=r j as hj i c p;rw[akR,akR]at R;simp only[R,S,AT];exact g3) (by omega)
       rw[a0]at d0;exact d0
  ·rename_i O q;simp only[iO,ajC,n3,ag5]at Q;obtain⟨f0,V⟩:=Q;obtain⟨xs,n,B,_,hl,G,z⟩:=DataW.trod_struct q h;injection B with B;subst B
   have y:∀i,i<O.size→∃as,∀f,O[i]?=some f→cX P f.type as∧Cells ic w bH as ((cs.drop f.offset).take (P.cellsOf f.type)):=fun i hi=>by
    have C:=ll (xs:=O) hi;have F:=z i _ C;rw[j3 (by omega)]at F;have X:=V i hi;rw[C]at X;simp only[iO]at X;obtain⟨as,R,S⟩:=ih _ _ _ X.1 F;exact⟨as,fun f T=>by rw[C]at T;injection T with T;subst T;exact⟨R,S⟩⟩
   obtain⟨parts,D,K⟩:=Bv O.size y;refine⟨parts.flatten,.struct t O parts q D (fun i f c B p=>(K i c p f B).1),?_⟩;have:=H7 (N:=ic) (w:=w) (ι:=bH) (O.toList.map fun f=>P.cellsOf f.type) parts cs 0 (by simp[D]) (by omega) (fun i c m p J=>by
    rw[Do]at J;have hi:i<O.size:=by rw[←D];exact(jt.1 p).1
    have C:=ll (xs:=O) hi;have o0:O.toList[i]?=some O[i]:=by simp
    rw[o0]at J;simp only[aa3,th]at J;subst J;have X:=V i hi;rw[C]at X;simp only[iO,ajC]at X;have:=(K i c p _ C).2;rw[X.2]at this;rw[IF,← List.map_take];exact this)
   rw[DO,f0,Dj (by omega)]at this;exact this
  ·rename_i n e q;simp only[iO,ajC]at Q;obtain⟨he,m0⟩:=Q;obtain⟨xs,m,B,_,hl,G,z⟩:=DataW.trod_array q h;injection B with B;subst B
   have y:∀i,i<n→∃as,cX P e as∧Cells ic w bH as ((cs.drop (i*P.cellsOf e)).take (P.cellsOf e)):=fun i hi=>by
    have F:=z i hi;rw[j3 (by omega)]at F;exact ih _ _ _ he F
   obtain⟨parts,D,K⟩:=Bv n y;refine⟨parts.flatten,.array t e n parts q D (fun c p=>?_),?_⟩
   ·obtain⟨i,hi,rfl⟩:=akV.1 p;exact(K i _ (j3 hi)).1
   ·have:=H7 (N:=ic) (w:=w) (ι:=bH) (List.replicate n (P.cellsOf e)) parts cs 0 (by simp[D]) (by simp;omega) (fun i c m p J=>by
     rw[ak4]at J;split at J
     ·injection J with J;subst J
      rename_i hi;have:=(K i c p).2;rw[IF,List.take_replicate,Nat.min_eq_left (by omega),amw];exact this
     ·cases J)
    rw[DO,amw,← m0,Dj (by omega)]at this;exact this
  grind
end
theorem aeA{N:Nat→Prop}{w:World}{as:c6}{v:Value}(h:Cells N w bH as v.cells.toList):(∃cs,v=.agg cs)∨∃a,as=[a]∧Rel N w bH a v:=by
 cases v with
 | agg cs=>grind
 | _ =>
  right
  match as,h.len with
  | [a],_=>exact⟨a,rfl,h.rel 0 a _ rfl rfl⟩
section
variable{P:Program}
theorem cX.gen{t}{cs}(h:cX P t cs):match P.underlying t with
  | some .bool=>∃b,cs=[.bool b]
  | some (.int k)=>∃n,cs=[.int k n]∧(Lit.int k n).wf=true
  | some .string=>∃s:ByteArray,cs=[.str s]∧s.size≤maxLen
  | some (.slice e)=>∃l,cs=[.sl l]∧l.length≤maxLen∧(∀c∈l,c.length=P.cellsOf e)∧∀c∈l,cX P e c
  | some (.struct a)=>∃parts:h6,cs=parts.flatten∧parts.length=a.size∧∀(i:Nat) f c,a[i]?=some f→parts[i]?=some c→cX P f.type c
  | some (.array n e)=>∃parts:h6,cs=parts.flatten∧parts.length=n∧∀c∈parts,cX P e c
  | _=>False:=by
 cases h with
 | bool _ b h=>grind
 | int _ k n h o=>grind
 | str _ s h m=>grind
 | sl _ e l h d p j=>grind
 | struct _ a parts h d g=>grind
 | array _ e n parts h d g=>grind
theorem cX.int_inv{t}{k}{cs}(a:P.underlying t=some (.int k))(h:cX P t cs):∃n,cs=[.int k n]∧(Lit.int k n).wf=true:=by have:=h.gen;grind
theorem cX.bool_inv{t}{cs}(a:P.underlying t=some .bool)(h:cX P t cs):∃b,cs=[.bool b]:=by have:=h.gen;grind
theorem cX.str_inv{t}{cs}(a:P.underlying t=some .string)(h:cX P t cs):∃s:ByteArray,cs=[.str s]∧s.size≤maxLen:=by have:=h.gen;grind
theorem cX.sl_inv{t e}{cs}(a:P.underlying t=some (.slice e))(h:cX P t cs):∃l,cs=[.sl l]∧l.length≤maxLen∧(∀c∈l,c.length=P.cellsOf e)∧∀c∈l,cX P e c:=by have:=h.gen;grind
inductive KA where
 | int (k:IntKind)
 | str
 | bool
def KA.fits:KA→AV→Prop
 | .int k,a=>∃n,a=.int k n∧(Lit.int k n).wf=true
 | .str,a=>∃s:ByteArray,a=.str s∧s.size≤maxLen
 | .bool,a=>∃b,a=.bool b
def na:List KA→c6→Prop
 | [],[]=>True
 | k::b,a::as=>k.fits a∧na b as
 | _,_=>False
theorem na.append:∀{a b} {x y},na a x→na b y→na (a++b) (x++y)
 | [],_,[],_,_,h=>h
 | [],_,_::_,_,h,_=>h.elim
 | _::_,_,[],_,h,_=>h.elim
 | k::c,_,a::as,_,h,g=>⟨h.1,na.append h.2 g⟩
def sh(P:Program):Nat→TypeId→Option (List KA)
 | 0,_=>none
 | d+1,t=>match P.underlying t with
  | some .bool=>some [.bool]
  | some (.int k)=>some [.int k]
  | some .string=>some [.str]
  | some (.struct a)=>(a.toList.mapM fun f=>sh P d f.type).map List.flatten
  | some (.array n e)=>(sh P d e).map fun l=>(List.replicate n l).flatten
  | _=>none
theorem F7:∀{a:List (List KA)} {parts:h6},parts.length=a.length→(∀(i:Nat) b c,a[i]?=some b→parts[i]?=some c→na b c)→na a.flatten parts.flatten
 | [],[],_,_=>trivial
 | [],_::_,h,_=>by grind
 | _::_,[],h,_=>by grind
 | b::a,c::parts,h,g=>by
  exact(g 0 b c rfl rfl).append (F7 (by grind) (fun i ks' d e f=>g (i+1) ks' d (by grind) (by grind)))
theorem cX.flat:∀{d:Nat} {t:TypeId} {cs:c6} {r:List KA},cX P t cs→sh P d t=some r→na r cs
 | 0,_,_,_,_,h=>by cases h
 | d+1,t,cs,r,h,a=>by
  have g:=h.gen;unfold sh at a;split at a
  ·rename_i j;rw[j]at g;obtain⟨b,rfl⟩:=g;injection a with a;subst a;exact⟨⟨b,rfl⟩,trivial⟩
  ·rename_i k j;rw[j]at g;obtain⟨n,rfl,B⟩:=g;injection a with a;subst a;exact⟨⟨n,rfl,B⟩,trivial⟩
  ·rename_i j;rw[j]at g;obtain⟨s,rfl,A⟩:=g;injection a with a;subst a;exact⟨⟨s,rfl,A⟩,trivial⟩
  ·rename_i p j;rw[j]at g;obtain⟨parts,rfl,v,y⟩:=g;cases o:p.toList.mapM (fun f=>sh P d f.type) with
   | none=>rw[o]at a;cases a
   | some C =>
    rw[o]at a;injection a with a;subst a
    have q:=mapM_some_length o;refine F7 (by rw[v,q];simp) (fun i r c m u=>?_);have hi:i<p.size:=by rw[←v];exact(jt.1 u).1
    have w:=ll (xs:=p) hi;have x:p.toList[i]?=some p[i]:=by simp
    have z:=mapM_some_get o i p[i] x;rw[m]at z;exact(y i _ c w u).flat z
  ·rename_i n e j;rw[j]at g;obtain⟨parts,rfl,v,y⟩:=g;cases o:sh P d e with
   | none=>rw[o]at a;cases a
   | some l =>
    rw[o]at a;injection a with a;subst a
    refine F7 (by simp[v]) (fun i r c m u=>?_);rw[ak4]at m;split at m
    ·injection m with m;subst m
     exact(y c (mm u)).flat o
    ·cases m
  ·cases a
end
end Go.Proofs.YtocgkfoifehcbaaGreat

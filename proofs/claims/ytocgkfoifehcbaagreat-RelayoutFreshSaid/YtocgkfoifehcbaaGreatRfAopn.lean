/- From the reading of an argument as data to its abstract value; and the frame of a law's row. No program in sight. -/
import Derived.Test.YtocgkfoifehcbaaGreatRfAdrw
import Derived.ChangeArms
namespace Go.Proofs.YtocgkfoifehcbaaGreat
set_option linter.all false
open Go.ChangeShapes Go.WideShapes Go.ChangeAt Go.RowKit
inductive cp (P:Program):TypeId→List AV→Prop
 | bool (t:TypeId) (b:Bool) (h:P.underlying t=some .bool):cp P t [.bool b]
 | int (t:TypeId) (k:IntKind) (n:Int) (h:P.underlying t=some (.int k)) (hw:(Lit.int k n).wf=true):cp P t [.int k n]
 | str (t:TypeId) (s:ByteArray) (h:P.underlying t=some .string) (hs:s.size≤maxLen):cp P t [.str s]
 | sl (t e:TypeId) (l:List (List AV)) (h:P.underlying t=some (.slice e)) (hl:l.length≤maxLen) (hz:∀c∈l,c.length=P.cellsOf e) (hc:∀c∈l,cp P e c):cp P t [.sl l]
 | struct (t:TypeId) (fs:Array Field) (parts:List (List AV)) (h:P.underlying t=some (.struct fs)) (hl:parts.length=fs.size)
   (hp:∀(i:Nat) (f:Field) (c:List AV),fs[i]?=some f→parts[i]?=some c→cp P f.type c):cp P t parts.flatten
 | array (t e:TypeId) (n:Nat) (parts:List (List AV)) (h:P.underlying t=some (.array n e)) (hl:parts.length=n)
   (hp:∀(c:List AV),c∈parts→cp P e c):cp P t parts.flatten
def nI(P:Program)(ts:List TypeId)(t:TypeId):Bool :=
 match P.underlying t with
 | some .bool|some (.int _)|some .string=>true
 | some (.slice e)=>ts.contains e&&!(P.cellsOf e == 0)
 | some (.struct fs)=>(fs.toList.map fun f=>P.cellsOf f.type).sum == P.cellsOf t &&
   (List.range fs.size).all fun i=>match fs[i]? with|some f=>ts.contains f.type&&f.offset == ((fs.toList.take i).map fun f=>P.cellsOf f.type).sum|none=>false
 | some (.array n e)=>ts.contains e&&P.cellsOf t == n*P.cellsOf e
 | _=>false
def Il(P:Program)(ts:List TypeId):Bool:=ts.all fun t=>nI P ts t
theorem vZ{α:Type}{p:Nat→α→Prop}:∀(n:Nat),(∀i,i<n→∃a,p i a)→∃l:List α,l.length=n∧∀i a,l[i]?=some a→p i a
 | 0,_=>⟨[],rfl,fun i a h=>by simp at h⟩
 | n+1,h=>by
  obtain⟨l,h1,h2⟩:=vZ (p:=p) n (fun i hi=>h i (by omega));obtain⟨a,ha⟩:=h n (by omega);refine⟨l++[a],by simp[h1],fun i b hb=>?_⟩;rcases Nat.lt_or_ge i n with hi|hi
  ·rw[List.getElem?_append_left (by omega)]at hb;exact h2 i b hb
  ·rw[List.getElem?_append_right (by omega),h1]at hb;have:i=n:=by
    have:=(List.getElem?_eq_some_iff.1 hb).1;simp at this;omega
   subst this;simp at hb;subst hb;exact ha
theorem Cells.append{N:Nat→Prop}{w:World}{ι:Env}{a b:List AV}{x y:List Value}(h:Cells N w ι a x)(g:Cells N w ι b y):Cells N w ι (a++b) (x++y):=by
 refine⟨by simp[h.len,g.len],fun v hv=>?_,fun i c v hc hv=>?_⟩
 ·rcases List.mem_append.1 hv with hv|hv
  ·exact h.one v hv
  ·exact g.one v hv
 ·by_cases hi:i<a.length
  ·rw[List.getElem?_append_left hi]at hc;rw[List.getElem?_append_left (by rw[←h.len];exact hi)]at hv;exact h.rel i c v hc hv
  ·rw[List.getElem?_append_right (by omega)]at hc;rw[List.getElem?_append_right (by rw[←h.len];omega),← h.len]at hv;exact g.rel _ c v hc hv
theorem BF{N:Nat→Prop}{w:World}{ι:Env}:∀(szs:List Nat) (parts:List (List AV)) (cs:List Value) (off:Nat),parts.length=szs.length→off+szs.sum≤cs.length →
  (∀(i:Nat) (c:List AV) (n:Nat),parts[i]?=some c→szs[i]?=some n→Cells N w ι c ((cs.drop (off+(szs.take i).sum)).take n))→Cells N w ι parts.flatten ((cs.drop off).take szs.sum)
 | [],parts,cs,off,hl,_,_=>by
  have:parts=[]:=List.eq_nil_of_length_eq_zero (by simpa using hl);subst this;simp only[List.flatten_nil,List.sum_nil,List.take_zero];exact⟨rfl,fun v hv=>(by cases hv),fun i c v hc _=>by simp at hc⟩
 | n::szs,[],cs,off,hl,_,_=>by simp at hl
 | n::szs,p::parts,cs,off,hl,ho,h=>by
  have h0:=h 0 p n rfl rfl;simp only[List.take_zero,List.sum_nil,Nat.add_zero]at h0;simp only[List.sum_cons]at ho⊢;have h1:=BF szs parts cs (off+n) (by simpa using hl) (by omega) (fun i c m hc hm=>by
   have:=h (i+1) c m (by simpa using hc) (by simpa using hm);simp only[List.take_succ_cons,List.sum_cons]at this;rw[show off+n+(szs.take i).sum=off+(n+(szs.take i).sum) by omega];exact this)
  have e:(cs.drop off).take (n+szs.sum)=(cs.drop off).take n++(cs.drop (off+n)).take szs.sum:=by
   rw[List.take_add,List.drop_drop]
  rw[e,List.flatten_cons];exact h0.append h1
def eX:Nat→Prop:=fun _=>False
section
variable{H:Type}{enc:TypeId×Value→H}{P:Program}{w:World}{base:Nat}{spare:Nat→Bool}{held:Bool}{ts:List TypeId}
theorem LH(hts:Il P ts=true):∀(fuel:Nat) (t:TypeId) (cs:List Value) (x:DataW H×List MemPlace),ts.contains t=true→DataW.trod enc P w base spare held fuel t cs=some x→∃as,cp P t as∧Cells eX w bn as cs:=by
 intro fuel
 induction fuel with
 | zero=>intro t cs x _ h;simp[DataW.trod]at h
 | succ fuel ih =>
  intro t cs x ht h;have h1:nI P ts t=true:=List.all_eq_true.1 hts t (by simpa using ht);unfold nI at h1;have one:∀{a:AV} {v:Value},Rel eX w bn a v→v.oneCell'=true→Cells eX w bn [a] [v]:=fun hr ho =>
   ⟨rfl,fun u hu=>by simp at hu;subst hu;exact ho,fun i c u hc hu=>by
    cases i with
    | zero=>simp at hc hu;subst hc;subst hu;exact hr
    | succ i=>simp at hc⟩
  split at h1
  ·rename_i hu;obtain⟨b,rfl,_⟩:=DataW.trod_bool hu h;exact⟨_,.bool t b hu,one (.bool _ _) rfl⟩
  ·rename_i k hu;obtain⟨n,rfl,_,hw⟩:=DataW.trod_int hu h;exact⟨_,.int t k n hu hw,one (.int _ _ _) rfl⟩
  ·rename_i hu;obtain⟨s,rfl,_,hs⟩:=DataW.trod_string hu h;exact⟨_,.str t s hu hs,one (.str _ _) rfl⟩
  ·rename_i e hu;simp only[Bool.and_eq_true,Bool.not_eq_true',beq_eq_false_iff_ne,ne_eq]at h1;obtain⟨h1,hnz⟩:=h1;obtain⟨rfl,_⟩|⟨a,len,cap,elems,rest,n,hf,rfl,_,hb,hle,hcap,hel,hget,_⟩:=DataW.trod_slice hu h
   ·exact⟨_,.sl t e [] hu (by simp[maxLen]) (fun c hc=>by cases hc) (fun c hc=>by cases hc),one (.sl0 _ _ _) rfl⟩
   ·injection hf with hf;subst hf
    have each:∀i,i<len→∃as,(cp P e as∧as.length=P.cellsOf e)∧∃vs,w.cells? base (a.add (i*P.cellsOf e)) (P.cellsOf e)=some vs∧Cells eX w bn as vs:=fun i hi=>by
     have hg:=hget i hi;rw[List.getElem?_eq_getElem (by omega)]at hg;cases hc:w.cells? base (a.add (i*P.cellsOf e)) (P.cellsOf e) with
     | none=>rw[hc]at hg;cases hg
     | some vs =>
      rw[hc]at hg;obtain⟨as,g1,g2⟩:=ih e vs _ h1 hg;exact⟨as,⟨g1,by rw[g2.len];exact(World.cells?_some hc).2.1⟩,vs,rfl,g2⟩
    obtain⟨l,hll,hlp⟩:=vZ len each;refine⟨[.sl l],.sl t e l hu (by omega) (fun c hc=>?_) (fun c hc=>?_),one ?_ rfl⟩
    ·obtain⟨i,hi,rfl⟩:=List.mem_iff_getElem.1 hc;exact(hlp i _ (List.getElem?_eq_getElem hi)).1.2
    ·obtain⟨i,hi,rfl⟩:=List.mem_iff_getElem.1 hc;exact(hlp i _ (List.getElem?_eq_getElem hi)).1.1
    ·by_cases h0:l=[]
     ·subst h0;have:len=0:=by simpa using hll.symm
      subst this;exact .sl0 _ _ _
     ·by_cases hz:P.cellsOf e=0
      ·exact(hnz hz).elim
      ·have hpos:0<l.length:=List.length_pos_iff.2 h0;have cellAt:∀j as,l[j]?=some as→∀i c,as[i]?=some c→∃v,w.cell? ((a.add (j*P.cellsOf e)).add i)=some v∧v.oneCell'=true∧Rel eX w bn c v:=fun j as hj i c hc=>by
        obtain⟨⟨_,hlen⟩,vs,hvs,hcl⟩:=hlp j as hj;obtain⟨_,g2,g3⟩:=World.cells?_some hvs;have hi:i<P.cellsOf e:=by rw[←hlen];exact(List.getElem?_eq_some_iff.1 hc).1
        have hv:=List.getElem?_eq_getElem (l:=vs) (i:=i) (by omega);exact⟨_,(g3 i hi).trans hv,hcl.one _ (List.getElem_mem _),hcl.rel i c _ hc hv⟩
       obtain⟨as0,has0⟩:∃as0,l[0]?=some as0:=⟨_,List.getElem?_eq_getElem hpos⟩;have hl0:=(hlp 0 as0 has0).1.2;obtain⟨c0,hc0⟩:∃c0,as0[0]?=some c0:=⟨_,List.getElem?_eq_getElem (by omega)⟩;obtain⟨v0,e0,_,_⟩:=cellAt 0 as0 has0 0 c0 hc0;have hspot:a.spot=none:=by
        have ea:(a.add (0*P.cellsOf e)).add 0=a:=by simp[Addr.add]
        rw[ea]at e0;cases hs:a.spot with
        | none=>rfl
        | some s =>
         unfold World.cell? at e0;split at e0
         ·rw[hs]at e0;simp at e0
         ·cases e0
       obtain⟨b,o,s⟩:=a;simp only at hspot;subst hspot;have hbl:b<w.heap.size:=by
        have ea:((⟨b,o,none⟩:Addr).add (0*P.cellsOf e)).add 0=⟨b,o,none⟩:=by simp[Addr.add]
        rw[ea]at e0;exact block_lt_of_cell e0
       have hsl:=Rel.sl (N:=eX) (w:=w) bn l b o cap (P.cellsOf e) (fun j i=>match w.cell? ⟨b,o+j*P.cellsOf e+i,none⟩ with|some v=>(if v.oneCell'=true then v else .bool true)|none=>.bool true)
        (fun c hc=>by
         obtain⟨i,hi,rfl⟩:=List.mem_iff_getElem.1 hc;exact(hlp i _ (List.getElem?_eq_getElem hi)).1.2) hbl (fun h=>h)
        (fun j i=>by split<;>(try split)<;>first|assumption|rfl)
        (fun j as hj i c hc=>by
         obtain⟨v,g1,g2,_⟩:=cellAt j as hj i c hc;rw[Addr.add_mid,Addr.add_mid]at g1;simp only[g1,g2,if_true])
        (fun j as hj i c hc=>by
         obtain⟨v,g1,g2,g3⟩:=cellAt j as hj i c hc;rw[Addr.add_mid,Addr.add_mid]at g1;simp only[g1,g2,if_true];exact g3) (by omega)
       rw[hll]at hsl;exact hsl
  ·rename_i fs hu;simp only[Bool.and_eq_true,beq_iff_eq,List.all_eq_true,List.mem_range]at h1;obtain⟨hsum,hall⟩:=h1;obtain⟨xs,n,hf,_,hl,hlen,hget⟩:=DataW.trod_struct hu h;injection hf with hf;subst hf
   have each:∀i,i<fs.size→∃as,∀f,fs[i]?=some f→cp P f.type as∧Cells eX w bn as ((cs.drop f.offset).take (P.cellsOf f.type)):=fun i hi=>by
    have hfi:=Array.getElem?_eq_getElem (xs:=fs) hi;have hg:=hget i _ hfi;rw[List.getElem?_eq_getElem (by omega)]at hg;have ha:=hall i hi;rw[hfi]at ha;simp only[Bool.and_eq_true]at ha;obtain⟨as,g1,g2⟩:=ih _ _ _ ha.1 hg;exact⟨as,fun f hf'=>by rw[hfi]at hf';injection hf' with hf';subst hf';exact⟨g1,g2⟩⟩
   obtain⟨parts,hpl,hpp⟩:=vZ fs.size each;refine⟨parts.flatten,.struct t fs parts hu hpl (fun i f c hf hc=>(hpp i c hc f hf).1),?_⟩;have:=BF (N:=eX) (w:=w) (ι:=bn) (fs.toList.map fun f=>P.cellsOf f.type) parts cs 0 (by simp[hpl]) (by omega) (fun i c m hc hm=>by
    rw[List.getElem?_map]at hm;have hi:i<fs.size:=by rw[←hpl];exact(List.getElem?_eq_some_iff.1 hc).1
    have hfi:=Array.getElem?_eq_getElem (xs:=fs) hi;have hfl:fs.toList[i]?=some fs[i]:=by simp
    rw[hfl]at hm;simp only[Option.map_some,Option.some.injEq]at hm;subst hm;have ha:=hall i hi;rw[hfi]at ha;simp only[Bool.and_eq_true,beq_iff_eq]at ha;have:=(hpp i c hc _ hfi).2;rw[ha.2]at this;rw[Nat.zero_add,← List.map_take];exact this)
   rw[List.drop_zero,hsum,List.take_of_length_le (by omega)]at this;exact this
  ·rename_i n e hu;simp only[Bool.and_eq_true,beq_iff_eq]at h1;obtain⟨he,hcn⟩:=h1;obtain⟨xs,m,hf,_,hl,hlen,hget⟩:=DataW.trod_array hu h;injection hf with hf;subst hf
   have each:∀i,i<n→∃as,cp P e as∧Cells eX w bn as ((cs.drop (i*P.cellsOf e)).take (P.cellsOf e)):=fun i hi=>by
    have hg:=hget i hi;rw[List.getElem?_eq_getElem (by omega)]at hg;exact ih _ _ _ he hg
   obtain⟨parts,hpl,hpp⟩:=vZ n each;refine⟨parts.flatten,.array t e n parts hu hpl (fun c hc=>?_),?_⟩
   ·obtain⟨i,hi,rfl⟩:=List.mem_iff_getElem.1 hc;exact(hpp i _ (List.getElem?_eq_getElem hi)).1
   ·have:=BF (N:=eX) (w:=w) (ι:=bn) (List.replicate n (P.cellsOf e)) parts cs 0 (by simp[hpl]) (by simp;omega) (fun i c m hc hm=>by
     rw[List.getElem?_replicate]at hm;split at hm
     ·injection hm with hm;subst hm
      rename_i hi;have:=(hpp i c hc).2;rw[Nat.zero_add,List.take_replicate,Nat.min_eq_left (by omega),List.sum_replicate_nat];exact this
     ·cases hm)
    rw[List.drop_zero,List.sum_replicate_nat,← hcn,List.take_of_length_le (by omega)]at this;exact this
  ·cases h1
end
theorem Rb{N:Nat→Prop}{w:World}{as:List AV}{v:Value}(h:Cells N w bn as v.cells.toList):(∃cs,v=.agg cs)∨∃a,as=[a]∧Rel N w bn a v:=by
 cases v with
 | agg cs=>exact .inl ⟨cs,rfl⟩
 | _ =>
  right
  match as,h.len with
  | [a],_=>exact⟨a,rfl,h.rel 0 a _ rfl rfl⟩
section
variable{P:Program}
theorem cp.gen{t:TypeId}{cs:List AV}(h:cp P t cs):match P.underlying t with
  | some .bool=>∃b,cs=[.bool b]
  | some (.int k)=>∃n,cs=[.int k n]∧(Lit.int k n).wf=true
  | some .string=>∃s:ByteArray,cs=[.str s]∧s.size≤maxLen
  | some (.slice e)=>∃l,cs=[.sl l]∧l.length≤maxLen∧(∀c∈l,c.length=P.cellsOf e)∧∀c∈l,cp P e c
  | some (.struct fs)=>∃parts:List (List AV),cs=parts.flatten∧parts.length=fs.size∧∀(i:Nat) (f:Field) (c:List AV),fs[i]?=some f→parts[i]?=some c→cp P f.type c
  | some (.array n e)=>∃parts:List (List AV),cs=parts.flatten∧parts.length=n∧∀c∈parts,cp P e c
  | _=>False:=by
 cases h with
 | bool _ b h=>rw[h];exact⟨b,rfl⟩
 | int _ k n h hw=>rw[h];exact⟨n,rfl,hw⟩
 | str _ s h hs=>rw[h];exact⟨s,rfl,hs⟩
 | sl _ e l h hl hz hc=>rw[h];exact⟨l,rfl,hl,hz,hc⟩
 | struct _ fs parts h hl hp=>rw[h];exact⟨parts,rfl,hl,hp⟩
 | array _ e n parts h hl hp=>rw[h];exact⟨parts,rfl,hl,hp⟩
theorem cp.int_inv{t:TypeId}{k:IntKind}{cs:List AV}(hu:P.underlying t=some (.int k))(h:cp P t cs):∃n,cs=[.int k n]∧(Lit.int k n).wf=true:=by have:=h.gen;rw[hu]at this;exact this
theorem cp.bool_inv{t:TypeId}{cs:List AV}(hu:P.underlying t=some .bool)(h:cp P t cs):∃b,cs=[.bool b]:=by have:=h.gen;rw[hu]at this;exact this
theorem cp.str_inv{t:TypeId}{cs:List AV}(hu:P.underlying t=some .string)(h:cp P t cs):∃s:ByteArray,cs=[.str s]∧s.size≤maxLen:=by have:=h.gen;rw[hu]at this;exact this
theorem cp.sl_inv{t e:TypeId}{cs:List AV}(hu:P.underlying t=some (.slice e))(h:cp P t cs):∃l,cs=[.sl l]∧l.length≤maxLen∧(∀c∈l,c.length=P.cellsOf e)∧∀c∈l,cp P e c:=by have:=h.gen;rw[hu]at this;exact this
inductive KA where
 | int (k:IntKind)
 | str
 | bool
def KA.fits:KA→AV→Prop
 | .int k,a=>∃n,a=.int k n∧(Lit.int k n).wf=true
 | .str,a=>∃s:ByteArray,a=.str s∧s.size≤maxLen
 | .bool,a=>∃b,a=.bool b
def jG:List KA→List AV→Prop
 | [],[]=>True
 | k::ks,a::as=>k.fits a∧jG ks as
 | _,_=>False
theorem jG.append:∀{a b:List KA} {x y:List AV},jG a x→jG b y→jG (a++b) (x++y)
 | [],_,[],_,_,h=>h
 | [],_,_::_,_,h,_=>h.elim
 | _::_,_,[],_,h,_=>h.elim
 | k::ks,_,a::as,_,h,g=>⟨h.1,jG.append h.2 g⟩
def nP(P:Program):Nat→TypeId→Option (List KA)
 | 0,_=>none
 | d+1,t=>match P.underlying t with
  | some .bool=>some [.bool]
  | some (.int k)=>some [.int k]
  | some .string=>some [.str]
  | some (.struct fs)=>(fs.toList.mapM fun f=>nP P d f.type).map List.flatten
  | some (.array n e)=>(nP P d e).map fun l=>(List.replicate n l).flatten
  | _=>none
theorem z7:∀{kss:List (List KA)} {parts:List (List AV)},parts.length=kss.length→(∀(i:Nat) (ks:List KA) (c:List AV),kss[i]?=some ks→parts[i]?=some c→jG ks c)→jG kss.flatten parts.flatten
 | [],[],_,_=>trivial
 | [],_::_,h,_=>by simp at h
 | _::_,[],h,_=>by simp at h
 | ks::kss,c::parts,h,g=>by
  simp only[List.flatten_cons];exact(g 0 ks c rfl rfl).append (z7 (by simpa using h) (fun i ks' c' h1 h2=>g (i+1) ks' c' (by simpa using h1) (by simpa using h2)))
theorem cp.flat:∀{d:Nat} {t:TypeId} {cs:List AV} {ks:List KA},cp P t cs→nP P d t=some ks→jG ks cs
 | 0,_,_,_,_,h=>by cases h
 | d+1,t,cs,ks,h,hk=>by
  have hg:=h.gen;unfold nP at hk;split at hk
  ·rename_i hu;rw[hu]at hg;obtain⟨b,rfl⟩:=hg;injection hk with hk;subst hk;exact⟨⟨b,rfl⟩,trivial⟩
  ·rename_i k hu;rw[hu]at hg;obtain⟨n,rfl,hw⟩:=hg;injection hk with hk;subst hk;exact⟨⟨n,rfl,hw⟩,trivial⟩
  ·rename_i hu;rw[hu]at hg;obtain⟨s,rfl,hs⟩:=hg;injection hk with hk;subst hk;exact⟨⟨s,rfl,hs⟩,trivial⟩
  ·rename_i fs hu;rw[hu]at hg;obtain⟨parts,rfl,hl,hp⟩:=hg;cases hm:fs.toList.mapM (fun f=>nP P d f.type) with
   | none=>rw[hm]at hk;cases hk
   | some kss =>
    rw[hm]at hk;injection hk with hk;subst hk
    have hlen:=mapM_some_length hm;refine z7 (by rw[hl,hlen];simp) (fun i ks c h1 h2=>?_);have hi:i<fs.size:=by rw[←hl];exact(List.getElem?_eq_some_iff.1 h2).1
    have hfi:=Array.getElem?_eq_getElem (xs:=fs) hi;have hfl:fs.toList[i]?=some fs[i]:=by simp
    have h3:=mapM_some_get hm i fs[i] hfl;rw[h1]at h3;exact(hp i _ c hfi h2).flat h3
  ·rename_i n e hu;rw[hu]at hg;obtain⟨parts,rfl,hl,hp⟩:=hg;cases hm:nP P d e with
   | none=>rw[hm]at hk;cases hk
   | some l =>
    rw[hm]at hk;injection hk with hk;subst hk
    refine z7 (by simp[hl]) (fun i ks c h1 h2=>?_);rw[List.getElem?_replicate]at h1;split at h1
    ·injection h1 with h1;subst h1
     exact(hp c (List.mem_of_getElem? h2)).flat hm
    ·cases h1
  ·cases hk
end
end Go.Proofs.YtocgkfoifehcbaaGreat

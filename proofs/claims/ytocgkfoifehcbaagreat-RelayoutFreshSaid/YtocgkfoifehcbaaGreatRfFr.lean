/- The frame of a law's row: arguments of any types opened, the post shut. No program in sight. -/
import Derived.Test.YtocgkfoifehcbaaGreatRfAopn
import Derived.Test.YtocgkfoifehcbaaGreatRfVe
import Derived.WideShapes
namespace Go.Proofs.YtocgkfoifehcbaaGreat
set_option linter.all false
open Go.ChangeShapes Go.WideShapes Go.ChangeAt Go.RowKit
def ml(P:Program)(t:TypeId):Bool:=match P.underlying t with
 | some (.struct _)|some (.array _ _)=>true
 | _=>false
def mM(P:Program)(t:TypeId)(a:AV):Prop:=if ml P t=true then ∃cs,a=.agg cs∧cp P t cs else cp P t [a]
def Cl(P:Program):List TypeId→List AV→Prop
 | [],[]=>True
 | t::ts,a::as=>mM P t a∧Cl P ts as
 | _,_=>False
section
variable{H:Type}{enc:TypeId×Value→H}{P:Program}{w:World}{ts:List TypeId}{base:Nat}
theorem VV{t:TypeId}(ht:nI P ts t=true)(hr:ml P t=false){cs:Array Value}(h:Value.okWide P w .any base t (.agg cs)):False:=by
 unfold nI at ht;unfold ml at hr;cases hu:P.underlying t with
 | none=>rw[hu]at ht;simp at ht
 | some d =>
  rw[hu]at ht hr;cases d<;>simp at ht hr
  ·have:=okWide_bool hu h;obtain⟨b,hb⟩:=this;cases hb
  ·have:=okWide_int hu h;obtain⟨b,hb⟩:=this;cases hb
  ·have:=okWide_string hu h;obtain⟨b,hb⟩:=this;cases hb
  ·have:=okWide_slice hu h;obtain⟨a,l,c,hb⟩:=this;cases hb
theorem Iu(hts:Il P ts=true):∀(ps:List TypeId) (vs:List Value) (ds:List (DataW H)) (q:List MemPlace),(∀t∈ps,ts.contains t=true)→DataW.TrodAll enc P w 0 (fun _=>true) true ps vs ds q →
  (∀(j:Nat) t v,ps[j]?=some t→vs[j]?=some v→Value.okWide P w .any base t v) →
  ∃as,Cl P ps as∧as.length=vs.length∧∀(i:Nat) (a:AV) (v:Value),as[i]?=some a→vs[i]?=some v→Rel eX w bn a v
 | [],[],[],_,_,_,_=>⟨[],trivial,rfl,fun i a v h _=>by simp at h⟩
 | [],_::_,_,_,_,h,_=>h.elim
 | [],[],_::_,_,_,h,_=>h.elim
 | _::_,[],_,_,_,h,_=>h.elim
 | _::_,_::_,[],_,_,h,_=>h.elim
 | t::ps,v::vs,d::ds,q,hp,h,hok=>by
  obtain⟨p,q',hp1,hq,rfl⟩:=h;obtain⟨as,h1,h2,h3⟩:=Iu hts ps vs ds q' (fun t' ht=>hp t' (List.mem_cons_of_mem _ ht)) hq (fun j t v h1 h2=>hok (j+1) t v (by simpa using h1) (by simpa using h2));obtain⟨fuel,hf⟩:=hp1;obtain⟨cs,g1,g2⟩:=LH hts fuel t _ _ (hp t List.mem_cons_self) hf;have hv:=hok 0 t v rfl rfl;have ht1:nI P ts t=true:=by
   have:=List.all_eq_true.1 hts t (by have:=hp t List.mem_cons_self;simpa using this);exact this
  have fin:∀a,mM P t a→Rel eX w bn a v→∃as,Cl P (t::ps) as∧as.length=(v::vs).length∧∀(i:Nat) (a:AV) (v':Value),as[i]?=some a→(v::vs)[i]?=some v'→Rel eX w bn a v':=fun a ha hr=>by
   refine⟨a::as,⟨ha,h1⟩,by simp[h2],fun i b v' hb hv'=>?_⟩;cases i with
   | zero=>simp at hb hv';subst hb;subst hv';exact hr
   | succ i=>exact h3 i b v' (by simpa using hb) (by simpa using hv')
  by_cases hrow:ml P t=true
  ·have:∃cs,v=.agg cs:=by
    unfold Value.okWide at hv;unfold ml at hrow;split at hv
    ·obtain⟨cs,hcs,_⟩:=hv;exact⟨cs,hcs⟩
    ·obtain⟨cs,hcs,_⟩:=hv;exact⟨cs,hcs⟩
    ·rename_i hn1 hn2;split at hrow
     ·rename_i f hu;exact(hn1 f hu).elim
     ·rename_i a b hu;exact(hn2 a b hu).elim
     ·cases hrow
   obtain⟨l,rfl⟩:=this;refine fin (.agg cs) (by unfold mM;rw[if_pos hrow];exact⟨cs,rfl,g1⟩) ?_;have:=Rel.agg (N:=eX) (w:=w) bn cs l.toList g2.len g2.one g2.rel;simpa using this
  ·obtain⟨l,rfl⟩|⟨a,rfl,hr⟩:=Rb g2
   ·exact(VV ht1 (by simpa using hrow) hv).elim
   ·exact fin a (by unfold mM;rw[if_neg hrow];exact g1) hr
end
theorem Kg{H:Type}{enc:TypeId×Value→H}{P:Program}{w:World}{b:Nat}{sp:Nat→Bool}{he:Bool}:∀(ps:List TypeId) (vs:List Value) (ds:List (DataW H)) (q:List MemPlace),DataW.TrodAll enc P w b sp he ps vs ds q→ds.length=ps.length
 | [],[],[],_,_=>rfl
 | [],_::_,_,_,h=>h.elim
 | [],[],_::_,_,h=>h.elim
 | _::_,[],_,_,h=>h.elim
 | _::_,_::_,[],_,h=>h.elim
 | t::ps,v::vs,d::ds,q,h=>by
  obtain⟨p,q',hp1,hq,rfl⟩:=h;simp[Kg ps vs ds q' hq]
theorem LM{P:Program}{f:FuncId}{as:List AV}(h:aU P f as (fun v _=>v=.bool true)){W:World}{xs:List Value}(hl:as.length=xs.length)(hx:∀(i:Nat) (a:AV) (v:Value),as[i]?=some a→xs[i]?=some v→Rel eX W bn a v):
  Calls P f xs.toArray W fun e W'=>e=.returned (.bool true)∧Below W.heap.size W W':=by
 refine (h eX W xs.toArray (fun b hb=>hb.elim) ⟨by simpa using hl,fun i v y h1 h2=>hx i v y h1 (by simpa using h2)⟩).mono ?_
 rintro e w' ⟨x,v,s,ι,rfl,rfl,hs,hr⟩
 cases hr;exact⟨rfl,hs.below.plain⟩
theorem ce{α:Type}{l:List α}{n:Nat}(h:l.length=n+1):∃a r,l=a::r∧r.length=n:=by
 cases l with
 | nil=>simp at h
 | cons a r=>exact⟨a,r,rfl,by simpa using h⟩
theorem HE{α:Type}{p:List AV→α→Prop}:∀{l:List (List AV)},(∀c∈l,∃x,p c x)→∃L:List α,l.length=L.length∧∀(j:Nat) c x,l[j]?=some c→L[j]?=some x→p c x
 | [],_=>⟨[],rfl,fun j c x h _=>by simp at h⟩
 | c::r,h=>by
  obtain⟨x,hx⟩:=h c List.mem_cons_self;obtain⟨L,h1,h2⟩:=HE (l:=r) (fun c hc=>h c (List.mem_cons_of_mem _ hc));refine⟨x::L,by simp[h1],fun j c' x' hc hx'=>?_⟩;cases j with
  | zero=>simp at hc hx';subst hc;subst hx';exact hx
  | succ j=>exact h2 j c' x' (by simpa using hc) (by simpa using hx')
theorem TQ{α:Type}{e:α→List AV}{l:List (List AV)}(h:∀c∈l,∃x,c=e x):∃L:List α,l=L.map e:=by
 obtain⟨L,h1,h2⟩:=HE h;refine⟨L,List.ext_getElem? fun j=>?_⟩;rw[List.getElem?_map];by_cases hj:j<l.length
 ·have h3:=List.getElem?_eq_getElem hj;have h4:=List.getElem?_eq_getElem (l:=L) (i:=j) (by omega);rw[h3,h4];simp only[Option.map_some];rw[h2 j _ _ h3 h4]
 ·rw[List.getElem?_eq_none (by omega),List.getElem?_eq_none (by omega)];rfl
section
variable{H:Type}{enc:TypeId×Value→H}{P:Program}
theorem Fr(hl:laidOutB P=true){W W':World}(hb:Below W.heap.size W W'):∀(ts:List TypeId) (vs:List Value) (ds:List (DataW H)) (ps:List MemPlace),
  (∀t∈ts,P.readableRec t=true∧t<P.types.size)→(∀x∈ps,x.block<W.heap.size)→DataW.TrodAll enc P W 0 (fun _=>true) true ts vs ds ps →
  DataW.TrodAll enc P W' 0 (fun b=>decide (b<W.heap.size)) true ts vs ds ps
 | [],[],[],ps,_,_,h=>h
 | [],_::_,_,_,_,_,h=>h.elim
 | [],[],_::_,_,_,_,h=>h.elim
 | _::_,[],_,_,_,_,h=>h.elim
 | _::_,_::_,[],_,_,_,h=>h.elim
 | t::ts,v::vs,d::ds,ps,hr,hlt,h=>by
  obtain⟨p,q,hp,hq,rfl⟩:=h;refine⟨p,q,?_,Fr hl hb ts vs ds q (fun t' ht=>hr t' (List.mem_cons_of_mem _ ht)) (fun x hx=>hlt x (List.mem_append_right _ hx)) hq,rfl⟩;exact Below.trod hl (hr t List.mem_cons_self).1 (hr t List.mem_cons_self).2 hp hb (fun x hx=>hlt x (List.mem_append_left _ hx))
theorem Ns{f:Func}{s:ChangeSpec}{apart fresh handsOn:Bool}{W W':World}{args:Array Value}{ds:List (DataW H)}{before:List MemPlace}{tb:TypeId}
  (hl:laidOutB P=true) (hvars:s.vars=[]) (hrt:f.resultTypes = #[tb]) (htb:P.underlying tb=some .bool) (hres:(s.fn H ds).results=[.lit (.bool true)]) (hargs:(s.fn H ds).args=ds) (hv:(s.fn H ds).vars=[])
  (hr:∀t∈f.params.toList,P.readableRec t=true∧t<P.types.size)
  (hW:DataW.Whole enc P f.params.toList s.vars apart W args.toList ds [] before) (hA:DataW.TrodAll enc P W 0 (fun _=>true) true f.params.toList args.toList ds before) (hb:Below W.heap.size W W') :
  s.post enc P f apart fresh handsOn false W args (.bool true) W':=by
 refine⟨ds,[],before,[],before,[],hW,?_,?_,?_,hb.frame _,fun h=>by cases h⟩
 ·rw[List.append_nil,hres,hrt];exact trodAll_mk1 (shut_bool htb true)
 ·rw[List.append_nil,hargs];exact Fr hl hb _ _ _ _ hr (fun p hp=>hW.lt p hp) hA
 ·rw[List.append_nil,hv,hvars];rfl
end
end Go.Proofs.YtocgkfoifehcbaaGreat

/- The frame of a law's row: arguments of any types opened, the post shut. No program in sight. -/
import Derived.Test.YtocgkfoifehcbaaGreatRkAopn
import Derived.Test.YtocgkfoifehcbaaGreatRkVe
import Derived.WideShapes
namespace Go.Proofs.YtocgkfoifehcbaaGreat
set_option linter.all false
open Go.ChangeShapes Go.WideShapes Go.ChangeAt Go.RowKit
def Qf:=@List.append_nil
def rA(P:Program)(t:TypeId):Bool:=match P.underlying t with
 | some (.struct _)|some (.array _ _)=>true
 | _=>false
def pC(P:Program)(t:TypeId)(a:AV):Prop:=if rA P t=true then ∃cs,a=.agg cs∧cV P t cs else cV P t [a]
def Jo(P:Program):List TypeId→c6→Prop
 | [],[]=>True
 | t::ts,a::as=>pC P t a∧Jo P ts as
 | _,_=>False
section
variable{H:Type}{enc:TypeId×Value→H}{P:Program}{w:World}{ts:List TypeId}{base:Nat}
theorem ag2{t:TypeId}(c:ta P ts t=true)(b:rA P t=false){cs:Array Value}(h:Value.okWide P w .any base t (.agg cs)):False:=by
 unfold ta at c;unfold rA at b;cases a:P.underlying t with
 | none=>grind
 | some d =>
  rw[a]at c b;cases d<;>simp at c b
  ·have:=okWide_bool a h;grind
  ·have:=okWide_int a h;grind
  ·have:=okWide_string a h;grind
  ·have:=okWide_slice a h;grind
theorem Le(g:Vh P ts=true):∀(ps:List TypeId) (vs:ee) (u:List (DataW H)) (q:List MemPlace),(∀t∈ps,ts.contains t=true)→DataW.TrodAll enc P w 0 (fun _=>true) true ps vs u q →
  (∀(j:Nat) t v,ps[j]?=some t→vs[j]?=some v→Value.okWide P w .any base t v) →
  ∃as,Jo P ps as∧as.length=vs.length∧∀(i:Nat) (a:AV) (v:Value),as[i]?=some a→vs[i]?=some v→Rel ic w bG a v
 | [],[],[],_,_,_,_=>⟨[],trivial,rfl,fun i a v h _=>by simp at h⟩
 | [],_::_,_,_,_,h,_=>h.elim
 | [],[],_::_,_,_,h,_=>h.elim
 | _::_,[],_,_,_,h,_=>h.elim
 | _::_,_::_,[],_,_,h,_=>h.elim
 | t::ps,v::vs,d::u,q,C,h,o=>by
  obtain⟨p,Q,D,M,rfl⟩:=h;obtain⟨as,x,y,J⟩:=Le g ps vs u Q (fun R O=>C R (ol _ O)) M (fun j t v x y=>o (j+1) t v (by simpa using x) (by simpa using y));obtain⟨n,L⟩:=D;obtain⟨cs,I,s⟩:=aeu g n t _ _ (C t ti) L;have r:=o 0 t v rfl rfl;have F:ta P ts t=true:=by
   have:=ne.1 g t (by have:=C t ti;simpa using this);exact this
  have m:∀a,pC P t a→Rel ic w bG a v→∃as,Jo P (t::ps) as∧as.length=(v::vs).length∧∀(i:Nat) (a:AV) (v':Value),as[i]?=some a→(v::vs)[i]?=some v'→Rel ic w bG a v':=fun a K E=>by
   refine⟨a::as,⟨K,x⟩,by simp[y],fun i b v' z k=>?_⟩;cases i with
   | zero=>simp at z k;subst z;subst k;exact E
   | succ i=>exact J i b v' (by simpa using z) (by simpa using k)
  by_cases c:rA P t=true
  ·have:∃cs,v=.agg cs:=by
    unfold Value.okWide at r;unfold rA at c;split at r
    ·obtain⟨cs,e,_⟩:=r;exact⟨cs,e⟩
    ·obtain⟨cs,e,_⟩:=r;exact⟨cs,e⟩
    ·rename_i A B;split at c
     ·rename_i f G;exact(A f G).elim
     ·rename_i a b G;exact(B a b G).elim
     ·cases c
   obtain⟨l,rfl⟩:=this;refine m (.agg cs) (by unfold pC;rw[lc c];exact⟨cs,rfl,I⟩) ?_;have:=Rel.agg (N:=ic) (w:=w) bG cs l.toList s.len s.one s.rel;simpa using this
  ·obtain⟨l,rfl⟩|⟨a,rfl,E⟩:=Wc s
   ·exact(ag2 F (by simpa using c) r).elim
   ·exact m a (by unfold pC;rw[kb c];exact I) E
end
theorem M6{H}{enc:TypeId×Value→H}{P}{w}{b}{sp}{c}:∀ps vs a q,DataW.TrodAll enc P w b sp c ps vs a q→a.length=ps.length
 | [],[],[],_,_=>rfl
 | [],_::_,_,_,h=>h.elim
 | [],[],_::_,_,h=>h.elim
 | _::_,[],_,_,h=>h.elim
 | _::_,_::_,[],_,h=>h.elim
 | t::ps,v::vs,d::a,q,h=>by
  obtain⟨p,g,e,f,rfl⟩:=h;simp[M6 ps vs a g f]
theorem Ya{P:Program}{f:FuncId}{as:c6}(h:aX P f as (fun v _=>v=.bool true)){W:World}{xs:ee}(n:as.length=xs.length)(l:∀(i:Nat) (a:AV) (v:Value),as[i]?=some a→xs[i]?=some v→Rel ic W bG a v):
  Calls P f xs.toArray W fun e c=>e=.returned (.bool true)∧Below W.heap.size W c:=by
 refine (h ic W xs.toArray (fun b g=>g.elim) ⟨by grind,fun i v y d m=>l i v y d (by grind)⟩).mono ?_
 rintro e w' ⟨x,v,s,ι,rfl,rfl,k,j⟩
 cases j;exact⟨rfl,k.below.plain⟩
theorem cL{α:Type}{l:List α}{n}(h:l.length=n+1):∃a r,l=a::r∧r.length=n:=by
 cases l with
 | nil=>grind
 | cons a r=>grind
theorem Ma{α:Type}{p:c6→α→Prop}:∀{l:hZ},(∀c∈l,∃x,p c x)→∃L:List α,l.length=L.length∧∀(j:Nat) c x,l[j]?=some c→L[j]?=some x→p c x
 | [],_=>⟨[],rfl,fun j c x h _=>by grind⟩
 | c::r,h=>by
  obtain⟨x,g⟩:=h c ti;obtain⟨L,e,f⟩:=Ma (l:=r) (fun c a=>h c (by grind));refine⟨x::L,by grind,fun j d i a b=>?_⟩
  grind
theorem YO{α:Type}{e:α→c6}{l}(h:∀c∈l,∃x,c=e x):∃L:List α,l=L.map e:=by
 obtain⟨L,a,b⟩:=Ma h;refine⟨L,akK fun j=>?_⟩
 grind
section
variable{H:Type}{enc:TypeId×Value→H}{P:Program}
theorem R0(i:laidOutB P=true){W f}(g:Below W.heap.size W f):∀ts vs c ps,
  (∀t∈ts,P.readableRec t=true∧t<P.types.size)→(∀x∈ps,x.block<W.heap.size)→DataW.TrodAll enc P W 0 (fun _=>true) true ts vs c ps →
  DataW.TrodAll enc P f 0 (fun b=>decide (b<W.heap.size)) true ts vs c ps
 | [],[],[],ps,_,_,h=>h
 | [],_::_,_,_,_,_,h=>h.elim
 | [],[],_::_,_,_,_,h=>h.elim
 | _::_,[],_,_,_,_,h=>h.elim
 | _::_,_::_,[],_,_,_,h=>h.elim
 | t::ts,v::vs,d::c,ps,e,a,h=>by
  obtain⟨p,q,j,k,rfl⟩:=h;refine⟨p,q,?_,R0 i g ts vs c q (fun m n=>e m (by grind)) (fun x l=>a x (by grind)) k,rfl⟩;exact Below.trod i (e t ti).1 (e t ti).2 j g (fun x l=>a x (by grind))
theorem aaq{f:Func}{s:ChangeSpec}{b fresh d:Bool}{W m:World}{c:Array Value}{e:List (DataW H)}{a:List MemPlace}{tb:TypeId}
  (r:laidOutB P=true) (i:s.vars=[]) (k:f.resultTypes = #[tb]) (l:P.underlying tb=some .bool) (j:(s.fn H e).results=[.lit (.bool true)]) (g:(s.fn H e).args=e) (w:(s.fn H e).vars=[])
  (v:∀t∈f.params.toList,P.readableRec t=true∧t<P.types.size)
  (n:DataW.Whole enc P f.params.toList s.vars b W c.toList e [] a) (q:DataW.TrodAll enc P W 0 (fun _=>true) true f.params.toList c.toList e a) (o:Below W.heap.size W m) :
  s.post enc P f b fresh d false W c (.bool true) m:=by
 refine⟨e,[],a,[],a,[],n,?_,?_,?_,o.frame _,fun h=>by grind⟩
 ·rw[Qf,j,k];exact trodAll_mk1 (shut_bool l true)
 ·rw[Qf,g];exact R0 r o _ _ _ _ v (fun p u=>n.lt p u) q
 ·rw[Qf,w,i];rfl
end
end Go.Proofs.YtocgkfoifehcbaaGreat

/- The frame of a law's row: arguments of any types opened, the post shut. No program in sight. -/
import Derived.Test.YtocgkfoifehcbaaGreatRdAopn
import Derived.Test.YtocgkfoifehcbaaGreatRdVe
import Derived.WideShapes
namespace Go.Proofs.YtocgkfoifehcbaaGreat
set_option linter.all false
open Go.ChangeShapes Go.WideShapes Go.ChangeAt Go.RowKit
def Io:=@List.append_nil
def nW(P:Program)(t:TypeId):Bool:=match P.underlying t with
 | some (.struct _)|some (.array _ _)=>true
 | _=>false
def qZ(P:Program)(t:TypeId)(a:AV):Prop:=if nW P t=true then ∃cs,a=.agg cs∧cX P t cs else cX P t [a]
def Km(P:Program):List TypeId→c6→Prop
 | [],[]=>True
 | t::ts,a::as=>qZ P t a∧Km P ts as
 | _,_=>False
section
variable{H:Type}{enc:TypeId×Value→H}{P:Program}{w:World}{ts:List TypeId}{base:Nat}
theorem ajD{t:TypeId}(c:sd P ts t=true)(b:nW P t=false){cs:Array Value}(h:Value.okWide P w .any base t (.agg cs)):False:=by
 unfold sd at c;unfold nW at b;cases a:P.underlying t with
 | none=>grind
 | some d =>
  rw[a]at c b;cases d<;>simp at c b
  ·have:=okWide_bool a h;grind
  ·have:=okWide_int a h;grind
  ·have:=okWide_string a h;grind
  ·have:=okWide_slice a h;grind
theorem Qb(g:Lf P ts=true):∀(ps:List TypeId) (vs:eg) (u:List (DataW H)) (q:List MemPlace),(∀t∈ps,ts.contains t=true)→DataW.TrodAll enc P w 0 (fun _=>true) true ps vs u q →
  (∀(j:Nat) t v,ps[j]?=some t→vs[j]?=some v→Value.okWide P w .any base t v) →
  ∃as,Km P ps as∧as.length=vs.length∧∀(i:Nat) (a:AV) (v:Value),as[i]?=some a→vs[i]?=some v→Rel ic w bH a v
 | [],[],[],_,_,_,_=>⟨[],trivial,rfl,fun i a v h _=>by simp at h⟩
 | [],_::_,_,_,_,h,_=>h.elim
 | [],[],_::_,_,_,h,_=>h.elim
 | _::_,[],_,_,_,h,_=>h.elim
 | _::_,_::_,[],_,_,h,_=>h.elim
 | t::ps,v::vs,d::u,q,C,h,o=>by
  obtain⟨p,Q,D,M,rfl⟩:=h;obtain⟨as,x,y,J⟩:=Qb g ps vs u Q (fun R O=>C R (oR _ O)) M (fun j t v x y=>o (j+1) t v (by simpa using x) (by simpa using y));obtain⟨n,L⟩:=D;obtain⟨cs,I,s⟩:=aeJ g n t _ _ (C t tl) L;have r:=o 0 t v rfl rfl;have F:sd P ts t=true:=by
   have:=n3.1 g t (by have:=C t tl;simpa using this);exact this
  have m:∀a,qZ P t a→Rel ic w bH a v→∃as,Km P (t::ps) as∧as.length=(v::vs).length∧∀(i:Nat) (a:AV) (v':Value),as[i]?=some a→(v::vs)[i]?=some v'→Rel ic w bH a v':=fun a K E=>by
   refine⟨a::as,⟨K,x⟩,by simp[y],fun i b v' z k=>?_⟩;cases i with
   | zero=>simp at z k;subst z;subst k;exact E
   | succ i=>exact J i b v' (by simpa using z) (by simpa using k)
  by_cases c:nW P t=true
  ·have:∃cs,v=.agg cs:=by
    unfold Value.okWide at r;unfold nW at c;split at r
    ·obtain⟨cs,e,_⟩:=r;exact⟨cs,e⟩
    ·obtain⟨cs,e,_⟩:=r;exact⟨cs,e⟩
    ·rename_i A B;split at c
     ·rename_i f G;exact(A f G).elim
     ·rename_i a b G;exact(B a b G).elim
     ·cases c
   obtain⟨l,rfl⟩:=this;refine m (.agg cs) (by unfold qZ;rw[lp c];exact⟨cs,rfl,I⟩) ?_;have:=Rel.agg (N:=ic) (w:=w) bH cs l.toList s.len s.one s.rel;simpa using this
  ·obtain⟨l,rfl⟩|⟨a,rfl,E⟩:=aeA s
   ·exact(ajD F (by simpa using c) r).elim
   ·exact m a (by unfold qZ;rw[kc c];exact I) E
end
theorem VD{H}{enc:TypeId×Value→H}{P}{w}{b}{sp}{c}:∀ps vs a q,DataW.TrodAll enc P w b sp c ps vs a q→a.length=ps.length
 | [],[],[],_,_=>rfl
 | [],_::_,_,_,h=>h.elim
 | [],[],_::_,_,h=>h.elim
 | _::_,[],_,_,h=>h.elim
 | _::_,_::_,[],_,h=>h.elim
 | t::ps,v::vs,d::a,q,h=>by
  obtain⟨p,g,e,f,rfl⟩:=h;simp[VD ps vs a g f]
theorem akC{P:Program}{f:FuncId}{as:c6}(h:aY P f as (fun v _=>v=.bool true)){W:World}{xs:eg}(n:as.length=xs.length)(l:∀(i:Nat) (a:AV) (v:Value),as[i]?=some a→xs[i]?=some v→Rel ic W bH a v):
  Calls P f xs.toArray W fun e c=>e=.returned (.bool true)∧Below W.heap.size W c:=by
 refine (h ic W xs.toArray (fun b g=>g.elim) ⟨by grind,fun i v y d m=>l i v y d (by grind)⟩).mono ?_
 rintro e w' ⟨x,v,s,ι,rfl,rfl,k,j⟩
 cases j;exact⟨rfl,k.below.plain⟩
theorem cU{α:Type}{l:List α}{n}(h:l.length=n+1):∃a r,l=a::r∧r.length=n:=by
 cases l with
 | nil=>grind
 | cons a r=>grind
theorem Mf{α:Type}{p:c6→α→Prop}:∀{l:h6},(∀c∈l,∃x,p c x)→∃L:List α,l.length=L.length∧∀(j:Nat) c x,l[j]?=some c→L[j]?=some x→p c x
 | [],_=>⟨[],rfl,fun j c x h _=>by grind⟩
 | c::r,h=>by
  obtain⟨x,g⟩:=h c tl;obtain⟨L,e,f⟩:=Mf (l:=r) (fun c a=>h c (by grind));refine⟨x::L,by grind,fun j d i a b=>?_⟩
  grind
theorem Zp{α:Type}{e:α→c6}{l}(h:∀c∈l,∃x,c=e x):∃L:List α,l=L.map e:=by
 obtain⟨L,a,b⟩:=Mf h;refine⟨L,alj fun j=>?_⟩
 grind
section
variable{H:Type}{enc:TypeId×Value→H}{P:Program}
theorem Pp(i:laidOutB P=true){W f}(g:Below W.heap.size W f):∀ts vs c ps,
  (∀t∈ts,P.readableRec t=true∧t<P.types.size)→(∀x∈ps,x.block<W.heap.size)→DataW.TrodAll enc P W 0 (fun _=>true) true ts vs c ps →
  DataW.TrodAll enc P f 0 (fun b=>decide (b<W.heap.size)) true ts vs c ps
 | [],[],[],ps,_,_,h=>h
 | [],_::_,_,_,_,_,h=>h.elim
 | [],[],_::_,_,_,_,h=>h.elim
 | _::_,[],_,_,_,_,h=>h.elim
 | _::_,_::_,[],_,_,_,h=>h.elim
 | t::ts,v::vs,d::c,ps,e,a,h=>by
  obtain⟨p,q,j,k,rfl⟩:=h;refine⟨p,q,?_,Pp i g ts vs c q (fun m n=>e m (by grind)) (fun x l=>a x (by grind)) k,rfl⟩;exact Below.trod i (e t tl).1 (e t tl).2 j g (fun x l=>a x (by grind))
theorem acw{f:Func}{s:ChangeSpec}{b fresh d:Bool}{W m:World}{c:Array Value}{e:List (DataW H)}{a:List MemPlace}{tb:TypeId}
  (r:laidOutB P=true) (i:s.vars=[]) (k:f.resultTypes = #[tb]) (l:P.underlying tb=some .bool) (j:(s.fn H e).results=[.lit (.bool true)]) (g:(s.fn H e).args=e) (w:(s.fn H e).vars=[])
  (v:∀t∈f.params.toList,P.readableRec t=true∧t<P.types.size)
  (n:DataW.Whole enc P f.params.toList s.vars b W c.toList e [] a) (q:DataW.TrodAll enc P W 0 (fun _=>true) true f.params.toList c.toList e a) (o:Below W.heap.size W m) :
  s.post enc P f b fresh d false W c (.bool true) m:=by
 refine⟨e,[],a,[],a,[],n,?_,?_,?_,o.frame _,fun h=>by grind⟩
 ·rw[Io,j,k];exact trodAll_mk1 (shut_bool l true)
 ·rw[Io,g];exact Pp r o _ _ _ _ v (fun p u=>n.lt p u) q
 ·rw[Io,w,i];rfl
end
end Go.Proofs.YtocgkfoifehcbaaGreat

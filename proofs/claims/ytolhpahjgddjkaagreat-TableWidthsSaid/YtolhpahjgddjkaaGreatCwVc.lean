/- Closures over variables of the call's own that are still written: they are values, and a call of them lends the variables. No program in sight. -/
import Derived.Test.YtolhpahjgddjkaaGreatCwVz
import Derived.Test.YtolhpahjgddjkaaGreatCwVn
namespace Go.Proofs.YtolhpahjgddjkaaGreat
set_option linter.all false
open Go.RowKit
def AM(s:AS):List (Nat×Nat)→Option (List Value×List AV)
 | []=>some ([],[])
 | (d,id)::r=>match look d s.t,look id s.o,AM s r with
  | some (.lk i x),some cs,some (xs,l)=>match Nat.beq i id&&dV [] cs with
   | true=>some (x::xs,.cptr cs::l)
   | false=>none
  | _,_,_=>none
def yG(s:AS):List Operand→List Nat→Option (List Value)
 | [],[]=>some []
 | o::r,d::ds=>match s.ev o,look d s.t,yG s r ds with
  | some (.ptr id 0),some (.lk i x),some l=>match Nat.beq i id with
   | true=>some (x::l)
   | false=>none
  | _,_,_=>none
 | _,_=>none
def Jv(s:AS)(o:Oper):Option (Value×List AV):=match o.op with
 | .call c=>match c.callee with
  | .value fo=>match s.ev fo,dX s c.args.toList with
   | some (.vv x),some l=>match dV [] l with
    | true=>some (x,l)
    | false=>none
   | _,_=>none
  | _=>none
 | _=>none
section
variable{cx:Cx}{s:AS}{a:Act}{w:World}{ι:Env}
theorem IJ(hs:aX cx s a w ι):∀{aN:List (Nat×Nat)} {xs:List Value} {l:List AV},AM s aN=some (xs,l)→l.length=xs.length∧∀(i:Nat) (c:AV) (y:Value),l[i]?=some c→xs[i]?=some y→Rel (fun _=>False) w bM c y
 | [],xs,l,h=>by
  injection h with h;injection h with h1 h2;subst h1;subst h2
  exact⟨rfl,fun i c y hc=>by simp at hc⟩
 | (d,id)::r,xs,l,h=>by
  unfold AM at h;split at h
  case h_2=>cases h
  rename_i j x cs xs' l' h1 h2 h3;split at h
  case h_2=>cases h
  rename_i h4;simp only[Bool.and_eq_true]at h4;have e:=Nat.eq_of_beq_eq_true h4.1;subst e;injection h with h;injection h with e1 e2;subst e1;subst e2
  obtain⟨q1,q2⟩:=IJ hs h3;refine⟨by simp[q1],fun i c y hc hy=>?_⟩;cases i with
  | succ i=>exact q2 i c y (by simpa using hc) (by simpa using hy)
  | zero =>
   simp only[List.getElem?_cons_zero,Option.some.injEq]at hc hy;subst hc;subst hy;have hx:=hs.vq h1;obtain⟨g,T,vs,e1,e2,e3⟩:=hs.hs.objs j cs h2 (by rw[hx];rfl);rw[hx]at e1;injection e1 with e1;subst e1
   refine .cptr _ cs g 0 (fun i=>(vs[i]?).getD (.bool true)) (hs.hs.own j g (by rw[hx];rfl)).2 (fun hb=>hb) (fun i=>?_) (fun i c hc=>?_) (fun i c hc=>?_)
   ·cases e:vs[i]? with
    | none=>rfl
    | some v=>exact e3.one v (by rw[←Array.getElem?_toList]at e;exact List.mem_of_getElem? e)
   ·have hlt:i<vs.size:=by have:=(List.getElem?_eq_some_iff.1 hc).1;rw[e3.len]at this;simpa using this
    rw[cell_of_row w g _ vs T (0,0) e2,Nat.zero_add];simp[Array.getElem?_eq_getElem hlt]
   ·have hlt:i<vs.size:=by have:=(List.getElem?_eq_some_iff.1 hc).1;rw[e3.len]at this;simpa using this
    have hv':vs.toList[i]?=some vs[i]:=by simp
    have hr:=(e3.rel i c _ hc hv').pure (ls h4.2 i c hc) bM;have h9:=hr.mono (N':=fun _=>False) (w':=w) (Nat.le_refl _) (fun _ _ h=>h.elim) (fun _ _ _=>rfl) (fun _ _ h=>h);simpa[Array.getElem?_eq_getElem hlt]using h9
theorem Oi(hs:aX cx s a w ι):∀{os:List Operand} {ds:List Nat} {xs:List Value},yG s os ds=some xs→os.map a.eval=xs
 | [],[],xs,h=>by injection h
 | [],_::_,_,h=>nomatch h
 | _::_,[],_,h=>nomatch h
 | o::r,d::ds,xs,h=>by
  unfold yG at h;split at h
  case h_2=>cases h
  rename_i id j x l h1 h2 h3;split at h
  case h_2=>cases h
  rename_i h4;have e:=Nat.eq_of_beq_eq_true h4;subst e;injection h with h;subst h
  have hx:=hs.vq h2;have hr:=hs.ev h1;generalize hX:a.eval o=X at hr;cases hr with
  | ptr _ _ _ g hg =>
   rw[hx]at hg;injection hg with hg;subst hg
   rw[List.map_cons,hX,Oi hs h3]
end
section
variable{cx:Cx}{Q:Exit→Act→World→Prop}{ks:List ao}{s:AS}{all:Array Oper}{f:Func}{p:List Nat}{i:Nat}
def B3(g:FuncId)(xs:List Value):Value:=.func (.func g) #[] xs.toArray
theorem YC(g:FuncId)(captured:Array Operand)(ds:List Nat)(xs:List Value)(k:OT cx Q ks all (bk f p (i+1)) (s.put (bC f p i).dst (.vv (B3 g xs))))(he:yG s captured.toList ds=some xs)(hl:bk f p i=bC f p i::bk f p (i+1):=by kernel_rfl)(hg:cN all s (bC f p i)=true:=by kernel_rfl)
  (hop:(bC f p i).op=.makeFunc (.func g) #[] captured:=by kernel_rfl) (hd:dq cx.n (bC f p i).dst=true:=by kernel_rfl):OT cx Q ks all (bk f p i) s:=by
 rw[hl];refine iK _ hg fun a w ι hs=>?_;refine wpList_plain rfl fun K hK=>?_;have e:=Oi hs he;have e2:captured.map a.eval=xs.toArray:=by
  apply Array.toList_inj.1;rw[Array.toList_map,e]
 unfold Oper.wp execOp;simp only[hop,Instr.makeFunc,Sem.run_bind,Sem.run_pure,Result.andThen_ok,Array.map_empty];rw[e2];exact hK _ _ (k _ _ _ (hs.put (iV hd) (.vv _ _ rfl)))
theorem H8(aN:List (Nat×Nat)){g:FuncId}{xs:List Value}{l al:List AV}{V:AV}(hc:aQ cx.P g (al.map fD++l) (fun v _=>v=V))(k:OT cx Q ks all (bk f p (i+1)) (s.put (bC f p i).dst V))
  (h1:Jv s (bC f p i)=some (B3 g xs,al)) (h2:AM s aN=some (xs,l)) (hl:bk f p i=bC f p i::bk f p (i+1):=by kernel_rfl) (hg:cN all s (bC f p i)=true:=by kernel_rfl) (hcl:dD cx.P g=true:=by kernel_rfl)
  (hd:(dq cx.n (bC f p i).dst&&V.vt)=true:=by kernel_rfl):OT cx Q ks all (bk f p i) s:=by
 rw[hl];refine iK _ hg fun a w ι hs=>?_;refine wpList_plain rfl fun K hK=>?_;simp only[Bool.and_eq_true]at hd;unfold Jv at h1;split at h1
 case h_2=>cases h1
 rename_i c hop;split at h1
 case h_2=>cases h1
 rename_i fo hcal;split at h1
 case h_2=>cases h1
 rename_i x l0 hf hl0;split at h1
 case h_2=>cases h1
 rename_i hp;injection h1 with h1;injection h1 with e1 e2;subst e1;subst e2
 have hr:=hs.ev hf;generalize hX:a.eval fo=X at hr;cases hr;have hrc:(execOp a.eval { bC f p i with guard:=none }).run cx.P w=.ok (.enter g (c.args.map a.eval++xs.toArray)) w:=by
  unfold execOp;simp only[hop,resolve,hcal,hX,B3,Deferred.ofValue,Sem.run_bind,Sem.run_pure,Result.andThen_ok,invoke];rw[LU hcl];simp
 unfold Oper.wp;rw[hrc,Oper.upon_enter];obtain⟨q1,q2⟩:=IJ hs h2;have ha:=Ht hs hl0 hp;have hsz:=ha.1;refine (hc (fun _=>False) w _ (fun b hb=>hb.elim) ⟨by simp at hsz⊢;omega,fun j v y hv hy=>?_⟩).mono ?_
 ·by_cases hj:j<(l0.map fD).length
  ·rw[List.getElem?_append_left hj]at hv;rw[Array.getElem?_append_left (by rw[←hsz];exact hj)]at hy;exact(ha.2 j v y hv hy).mono (Nat.le_refl _) (fun _ _ h=>h.elim) (fun _ _ _=>rfl) (fun _ _ h=>h)
  ·rw[List.getElem?_append_right (by omega)]at hv;rw[Array.getElem?_append_right (by rw[←hsz];omega)]at hy;rw[hsz]at hv;exact q2 _ v y hv (by simpa using hy)
 ·rintro e w' ⟨x,v,s1,ι1,rfl,rfl,hhs,hr⟩
  exact hK _ _ (k _ _ _ ((hs.kn hhs.below.plain).put (iV hd.1) (E6 hd.2 hr)))
theorem JV{id:Nat}(k:Nat){off:Nat}(h:look k s.t=some (.ptr id off)):mu cx s id:=fun hs=>by
 obtain⟨y,_,hr⟩:=hs.tmp k _ h;cases hr with
 | ptr _ _ _ g hg=>rw[hg];rfl
end
end Go.Proofs.YtolhpahjgddjkaaGreat

/- Code on abstract states: rules for each form of code, for calls, loops, returns. No program in sight. -/
import Derived.Test.YtocgkfoifehcbaaGreatRcAop4
import Derived.LoopN
namespace Go.Proofs.YtocgkfoifehcbaaGreat
set_option linter.all false
open Go.RowKit
inductive ao where
 | c (c:Code)
 | b (id:Nat)
 | l (back:Act→World→Prop)
def Kw(P:Program)(Q:Exit→Act→World→Prop):List ao→Exit→Act→World→Prop
 | []=>Q
 | .c c::ks=>Exit.then (c.wp P (Kw P Q ks)) (Kw P Q ks)
 | .b id::ks=>Exit.inBlock id (Kw P Q ks)
 | .l back::ks=>Exit.then back (Kw P Q ks)
def VE(cx:Cx)(Q:Exit→Act→World→Prop)(ks:List ao)(e:Exit)(s:AS):Prop:=∀a w ι,aU cx s a w ι→Kw cx.P Q ks e a w
def OT(cx:Cx)(Q:Exit→Act→World→Prop)(ks:List ao)(all:Array Oper)(l:List Oper)(s:AS):Prop:=∀a w ι,aU cx s a w ι→wpList cx.P all (Kw cx.P Q ks) l a w
section
variable{cx:Cx}{Q:Exit→Act→World→Prop}{ks:List ao}{s:AS}
theorem Xb(h:VE cx Q ks .normal s):VE cx Q (.c .skip::ks) .normal s:=fun a w ι hs=>wp_skip (h a w ι hs)
theorem VQ{x y:Code}(h:VE cx Q (.c x :: .c y::ks) .normal s):VE cx Q (.c (.seq x y)::ks) .normal s:=fun a w ι hs=>wp_seq (h a w ι hs)
theorem Qu{id:Nat}{c:Code}(h:VE cx Q (.c c :: .b id::ks) .normal s):VE cx Q (.c (.block id c)::ks) .normal s:=fun a w ι hs=>wp_block (h a w ι hs)
theorem Pi{id:Nat}(h:VE cx Q ks .normal s):VE cx Q (.b id::ks) .normal s:=fun a w ι hs=>h a w ι hs
theorem Pn{id:Nat}(h:VE cx Q ks (.exit id) s):VE cx Q (.c (.exit id)::ks) .normal s:=fun a w ι hs=>wp_exit (h a w ι hs)
theorem UP(h:VE cx Q ks .ret s):VE cx Q (.c .ret::ks) .normal s:=fun a w ι hs=>wp_ret (h a w ι hs)
theorem Qe{id:Nat}{c:Code}(h:VE cx Q ks (.exit id) s):VE cx Q (.c c::ks) (.exit id) s:=fun a w ι hs=>h a w ι hs
theorem TX{id:Nat}{b:Act→World→Prop}(h:VE cx Q ks (.exit id) s):VE cx Q (.l b::ks) (.exit id) s:=fun a w ι hs=>h a w ι hs
theorem O9{id:Nat}(h:VE cx Q ks .normal s):VE cx Q (.b id::ks) (.exit id) s:=fun a w ι hs=>by
 show Exit.inBlock id _ _ _ _;simp only[Exit.inBlock,if_true];exact h a w ι hs
theorem QU{id id':Nat}(hne:¬ id=id')(h:VE cx Q ks (.exit id) s):VE cx Q (.b id'::ks) (.exit id) s:=fun a w ι hs=>by
 show Exit.inBlock id' _ _ _ _;simp only[Exit.inBlock,if_neg hne];exact h a w ι hs
theorem ZC{c:Code}(h:VE cx Q ks .ret s):VE cx Q (.c c::ks) .ret s:=fun a w ι hs=>h a w ι hs
theorem PF{b:Act→World→Prop}(h:VE cx Q ks .ret s):VE cx Q (.l b::ks) .ret s:=fun a w ι hs=>h a w ι hs
theorem Yt{id:Nat}(h:VE cx Q ks .ret s):VE cx Q (.b id::ks) .ret s:=fun a w ι hs=>h a w ι hs
theorem I0{c:Operand}{x y:Code}{b:Bool}(hc:s.ev c=some (.bool b))(ht:b=true→VE cx Q (.c x::ks) .normal s)(hf:b=false→VE cx Q (.c y::ks) .normal s):VE cx Q (.c (.cond c x y)::ks) .normal s:=fun a w ι hs=>by
 have h:=hs.ev hc;have hc':a.eval c=.bool b:=by cases h':a.eval c<;>rw[h']at h<;>cases h;rfl
 cases b
 ·exact wp_cond hc' (hf rfl a w ι hs)
 ·exact wp_cond hc' (ht rfl a w ι hs)
theorem QZ{c:Operand}{x y:Code}(hc:s.ev c=some (.bool true))(ht:VE cx Q (.c x::ks) .normal s):VE cx Q (.c (.cond c x y)::ks) .normal s:=I0 hc (fun _=>ht) (fun h=>by cases h)
theorem PU{c:Operand}{x y:Code}(hc:s.ev c=some (.bool false))(hf:VE cx Q (.c y::ks) .normal s):VE cx Q (.c (.cond c x y)::ks) .normal s:=I0 hc (fun h=>by cases h) (fun _=>hf)
theorem IR{id:Nat}{ops:Array Oper}(h:OT cx Q ks ops ops.toList s):VE cx Q (.c (.region id ops false)::ks) .normal s:=fun a w ι hs=>wp_region_list (h a w ι hs)
theorem HR{all:Array Oper}(h:VE cx Q ks .normal s):OT cx Q ks all [] s:=fun a w ι hs=>h a w ι hs
theorem EA{all:Array Oper}{o:Oper}{r:List Oper}{s':AS}(hg:o.guard=none)(h:bT cx.P cx.n s o=some s')(k:OT cx Q ks all r s'):OT cx Q ks all (o::r) s:=fun a w ι hs=>by
 refine wpList_plain hg fun K hK=>?_;unfold Oper.wp;obtain⟨ι',_,hgood⟩:=Ib hs h;obtain⟨x,w',hr,hs'⟩|⟨w',hr,hs'⟩:=hgood
 ·rw[hr];exact hK _ _ (k _ _ _ hs')
 ·rw[hr];exact hK _ _ (k _ _ _ hs')
theorem U2{all:Array Oper}{o og:Oper}{r:List Oper}{j d:Nat}{b:Bool}(hg:o.guard=some (j,b))(hj:all[j]?=some og)(hd:og.dst=some d)(hv:look d s.t=some (.bool b))(k:OT cx Q ks all ({ o with guard:=none }::r) s):OT cx Q ks all (o::r) s:=fun a w ι hs=>by
 have hk:=k a w ι hs;obtain⟨x,hx,hr⟩:=hs.tmp d _ hv;cases hr;have hw:Region.wanted o (yielded all a.tmps)=true:=by simp[Region.wanted,hg,yielded,hj,hd,hx]
 have hw':Region.wanted { o with guard:=none } (yielded all a.tmps)=true:=by simp[Region.wanted]
 unfold wpList at hk⊢;rw[if_pos hw']at hk;rw[if_pos hw];exact hk
def qY(u:List Nat)(l:List (Nat×AV)):List (Nat×AV)→Prop
 | []=>True
 | (k,v)::r=>look k l=some v∧v.cK u=true∧qY u l r
def yV(u:List Nat)(l:List (Nat×List AV)):List (Nat×List AV)→Prop
 | []=>True
 | (k,v)::r=>look k l=some v∧dc u v=true∧u.contains k=true∧yV u l r
def xx(u:List Nat)(l:List (Nat×bE)):List (Nat×bE)→Prop
 | []=>True
 | (k,v)::r=>look k l=some v∧u.contains k=true∧xx u l r
def Sub(s' s:AS):Prop:=qY s'.u s.t s'.t∧yV s'.u s.o s'.o∧xx s'.u s.r s'.r∧∀id,s.u.contains (cL id)=true→s'.u.contains (cL id)=true∧s'.u.contains id=true
theorem Gz{u:List Nat}{l:List (Nat×AV)}:∀{m:List (Nat×AV)},qY u l m→∀k v,look k m=some v→look k l=some v∧v.cK u=true
 | [],_,k,v,hk=>by cases hk
 | (j,x)::r,h,k,v,hk=>by
  simp only[look]at hk;split at hk
  ·rename_i e;subst e;injection hk with hk;subst hk;exact⟨h.1,h.2.1⟩
  ·exact Gz h.2.2 k v hk
theorem zU{u:List Nat}{l:List (Nat×List AV)}:∀{m:List (Nat×List AV)},yV u l m→∀k v,look k m=some v→look k l=some v∧dc u v=true∧u.contains k=true
 | [],_,k,v,hk=>by cases hk
 | (j,x)::r,h,k,v,hk=>by
  simp only[look]at hk;split at hk
  ·rename_i e;subst e;injection hk with hk;subst hk;exact⟨h.1,h.2.1,h.2.2.1⟩
  ·exact zU h.2.2.2 k v hk
theorem Cb{u:List Nat}{l:List (Nat×bE)}:∀{m:List (Nat×bE)},xx u l m→∀k v,look k m=some v→look k l=some v∧u.contains k=true
 | [],_,k,v,hk=>by cases hk
 | (j,x)::r,h,k,v,hk=>by
  simp only[look]at hk;split at hk
  ·rename_i e;subst e;injection hk with hk;subst hk;exact⟨h.1,h.2.1⟩
  ·exact Cb h.2.2 k v hk
def fC(ι:Env)(u:List Nat):Env:=fun i=>if has u i=true then ι i else none
theorem j8{ι:Env}{u:List Nat}{i:Nat}(h:has u i=true):fC ι u i=ι i:=by simp only[fC,h,if_true]
theorem Xn{ι:Env}{u:List Nat}{i:Nat}{y:Value}(h:fC ι u i=some y):ι i=some y∧has u i=true:=by
 unfold fC at h;split at h
 ·rename_i hu;exact⟨h,hu⟩
 ·cases h
theorem vB{ι:Env}{u:List Nat}{i g:Nat}(h:bo (fC ι u i)=some g):bo (ι i)=some g:=by
 unfold fC at h;split at h
 ·exact h
 ·cases h
theorem Rel.fC{N N':Nat→Prop}{w:World}{ι:Env}{v:AV}{x:Value}(h:Rel N w ι v x){u:List Nat}(hu:v.cK u=true)(hN:∀b,N' b→N b):Rel N' w (fC ι u) v x :=
 (h.env (ι':=Proofs.YtocgkfoifehcbaaGreat.fC ι u) (fun id hid=>j8 (dY hid)) hu).mono (Nat.le_refl _) (fun b _ hb=>hN b hb) (fun _ _ _=>rfl) (fun _ _ h=>h)
theorem Bu{M:Nat→Prop}{ι:Env}{u:List Nat}:∀b,NN M (fC ι u) b→NN M ι b:=fun b hb=>by
 rcases hb with hb|⟨id,hb⟩
 ·exact .inl hb
 ·exact .inr ⟨id,vB hb⟩
theorem HS.sub{M:Nat→Prop}{w0:aB}{w:World}{ι:Env}{s s':AS}(h:HS M w0 w ι s)(hs:Sub s' s):HS M w0 w (fC ι s'.u) s':=by
 refine⟨h.below,h.old,fun i y hy=>(Xn hy).2,fun i g hg=>h.own i g (vB hg),fun i i' g hg hg'=>h.inj i i' g (vB hg) (vB hg'),fun i cs hi=>dY (zU hs.2.1 i cs hi).2.2,fun i a hi=>dY (Cb hs.2.2.1 i a hi).2,fun i cs hi hp=>?_,fun i ar hi hp=>?_,fun i y hp=>⟨(j8 (dY (hs.2.2.2 i (h.pin i y hp).2).2)).trans (h.pin i y hp).1,(hs.2.2.2 i (h.pin i y hp).2).1⟩⟩
 ·obtain⟨h1,h2,h3⟩:=zU hs.2.1 i cs hi;have h3:=dY h3;rw[j8 h3]at hp;obtain⟨g,T,vs,e1,e2,e3⟩:=h.objs i cs h1 hp;exact⟨g,T,vs,(j8 h3).trans e1,e2,e3.len,e3.one,fun j x v hx hv=>(e3.rel j x v hx hv).fC (iz h2 j x hx) Bu⟩
 ·obtain⟨h1,h3⟩:=Cb hs.2.2.1 i ar hi;have h3:=dY h3;rw[j8 h3]at hp;obtain⟨v,xs,e1,e2,e3,e4,e5⟩:=h.arrs i ar h1 hp;refine⟨v,xs,(j8 h3).trans e1,e2,e3,e4,fun j e hj k c hk=>?_⟩;obtain⟨x,hx,hr⟩:=e5 j e hj k c hk;exact⟨x,hx,hr.mono (Nat.le_refl _) (fun b _ hb=>Bu b hb) (fun _ _ _=>rfl) (fun r h'=>(j8 (Kj _ _ _)).trans h') (fun _ _=>rfl) (fun h=>h)⟩
theorem aU.sub{s':AS}{a:Act}{w:World}{ι:Env}(h:aU cx s a w ι)(hs:Sub s' s):aU cx s' a w (fC ι s'.u) :=
 ⟨h.hs.sub hs,h.dfr,h.n,fun k v hk=>by
  obtain⟨h1,h2⟩:=Gz hs.1 k v hk;obtain⟨x,hx,hr⟩:=h.tmp k v h1;exact⟨x,hx,hr.fC h2 Bu⟩⟩
theorem K5{e:Exit}(s':AS)(hs:Sub s' s)(h:VE cx Q ks e s'):VE cx Q ks e s:=fun a w ι hsim=>h a w _ (hsim.sub hs)
end
def mu(N:Nat→Prop)(w:World)(args:List AV)(xs:Array Value):Prop:=args.length=xs.size∧∀(i:Nat) (v:AV) (y:Value),args[i]?=some v→xs[i]?=some y→Rel N w bD v y
def aW(P:Program)(f:FuncId)(args:List AV)(Q:AV→AS→Prop):Prop :=
 ∀(M:Nat→Prop) (w:World) (xs:Array Value),(∀b,M b→b<w.heap.size)→mu M w args xs →
  Calls P f xs w fun e w'=>∃x v s ι,e=.returned x∧Q v s∧HS M (jc w) w' ι s∧Rel (NN M ι) w' ι v x
theorem aW.mono{P:Program}{f:FuncId}{args:List AV}{Q Q':AV→AS→Prop}(h:aW P f args Q)(hq:∀v s,Q v s→Q' v s):aW P f args Q':=fun M w xs h1 h2 =>
 (h M w xs h1 h2).mono fun _ _ ⟨x,v,s,ι,e1,e2,e3,e4⟩=>⟨x,v,s,ι,e1,hq _ _ e2,e3,e4⟩
def idxs(k:Nat):List AV→List (Nat×AV)
 | []=>[]
 | v::r=>(k,v)::idxs (k+1) r
theorem lr:∀(l:List AV) (k i:Nat),look i (idxs k l)=if k≤i then l[i-k]? else none
 | [],k,i=>by simp[idxs,look]
 | v::r,k,i=>by
  simp only[idxs,look,lr r (k+1) i];by_cases h:i=k
  ·subst h;simp
  ·rw[if_neg h];by_cases h2:k+1≤i
   ·have e:i-k=(i-(k+1))+1:=by omega
    rw[if_pos h2,if_pos (by omega),e,List.getElem?_cons_succ]
   ·rw[if_neg h2,if_neg (by omega)]
def bC(M:Nat→Prop)(w:aB)(Q:AV→AS→Prop)(e:Ending)(w':World):Prop:=∃x v s ι,e=.returned x∧Q v s∧HS M w w' ι s∧Rel (NN M ι) w' ι v x
theorem RN{P:Program}{f:FuncId}{fn:Func}{c:Code}{args:List AV}{Q:AV→AS→Prop}(hf:P.funcs[f]?=some fn)(hb:fn.body=some c)(n:Nat)(hn:fn.ntmps=n)(hl:args.length≤n)
  (h:∀M w0,VE ⟨P,n,M,w0⟩ (bodyPost P fn (bC M w0 Q)) [.c c] .normal ⟨idxs 0 args,[],[],[]⟩):aW P f args Q:=by
 intro M w xs hM hx;refine calls_of_wp hf hb ?_;refine wp_mono (h M (jc w) { tmps:=xs++Array.replicate (fn.ntmps-xs.size) undef,defers:=[] } w bD ?_) (fun e a w' hq=>?_)
 ·refine⟨⟨⟨rfl,rfl,rfl,Nat.le_refl _,fun _ _ _=>rfl⟩,fun b hb=>⟨hM b hb,fun h=>h⟩,fun i y hy=>(by cases hy),fun i g hg=>(by cases hg),fun i i' g hg=>(by cases hg),fun i cs hi=>(by cases hi),fun i a hi=>(by cases hi),fun i cs hi=>(by cases hi),fun i a hi=>(by cases hi),fun i v hv=>(by cases hv)⟩,rfl,?_,fun k v hk=>?_⟩
  ·have:=hx.1;simp;omega
  ·rw[lr,if_pos (Nat.zero_le _),Nat.sub_zero]at hk;have hlt:k<xs.size:=by rw[←hx.1];exact(List.getElem?_eq_some_iff.1 hk).1
   refine⟨xs[k],?_,(hx.2 k v _ hk (Array.getElem?_eq_getElem hlt)).mono (Nat.le_refl _) (fun b _ hb=>?_) (fun _ _ _=>rfl) (fun _ _ h=>h)⟩
   ·simp only[];rw[Array.getElem?_append_left hlt,Array.getElem?_eq_getElem hlt]
   ·rcases hb with hb|⟨id,hb⟩
    ·exact hb
    ·cases hb
 ·cases e<;>exact hq
def eT(P:Program)(s:AS):List ResultVar→Option (List AV)
 | []=>some []
 | .tmp t::r=>match look t s.t,eT P s r with|some v,some l=>some (v::l)|_,_=>none
 | .cell t T::r=>match look t s.t with
  | some p=>match jo P s T p,eT P s r with|some v,some l=>some (v::l)|_,_=>none
  | none=>none
def kP:List AV→AV
 | [v]=>v
 | l=>.tup l
def pg(tmps:Array Value):ResultVar→Sem Value
 | .tmp t=>pure (tmps.getD t undef)
 | .cell a t=>do loadVar t (← asAddr (tmps.getD a undef))
theorem uh{cx:Cx}{s:AS}{a:Act}{w:World}{ι:Env}(hsim:aU cx s a w ι):∀{rs:List ResultVar} {l:List AV},eT cx.P s rs=some l →
  ∃vs:List Value,(rs.mapM (pg a.tmps)).run cx.P w=.ok vs w∧l.length=vs.length∧∀(i:Nat) (v:AV) (y:Value),l[i]?=some v→vs[i]?=some y→Rel (NN cx.M ι) w ι v y
 | [],l,h=>by injection h with h;subst h;exact⟨[],by simp,rfl,fun i v y hv _=>by simp at hv⟩
 | .tmp t::r,l,h=>by
  unfold eT at h;cases h1:look t s.t with
  | none=>rw[h1]at h;cases h
  | some v =>
   cases h2:eT cx.P s r with
   | none=>rw[h1,h2]at h;cases h
   | some l' =>
    rw[h1,h2]at h;injection h with h;subst h
    obtain⟨vs,e1,e2,e3⟩:=uh hsim h2;obtain⟨x,hx,hr⟩:=hsim.tmp t v h1;refine⟨x::vs,?_,by simp[e2],fun i v' y hv hy=>?_⟩
    ·rw[List.mapM_cons];simp[pg,e1,Array.getD_eq_getD_getElem?,hx]
    ·cases i with
     | zero=>simp at hv hy;subst hv;subst hy;exact hr
     | succ i=>exact e3 i v' y (by simpa using hv) (by simpa using hy)
 | .cell t T::r,l,h=>by
  unfold eT at h;cases h1:look t s.t with
  | none=>rw[h1]at h;cases h
  | some p =>
   simp only[h1]at h;cases h3:jo cx.P s T p with
   | none=>rw[h3]at h;cases h
   | some v =>
    cases h2:eT cx.P s r with
    | none=>rw[h3,h2]at h;cases h
    | some l' =>
     rw[h3,h2]at h;injection h with h;subst h
     obtain⟨vs,e1,e2,e3⟩:=uh hsim h2;obtain⟨x,hx,hr⟩:=hsim.tmp t p h1;unfold jo at h3;split at h3
     ·rename_i cs hm;obtain⟨b,o',vl,hx',hcells⟩:=F7 hsim hr hm;obtain⟨z,hrun,hrz⟩:=GR h3 hcells;refine⟨z::vs,?_,by simp[e2],fun i v' y hv hy=>?_⟩
      ·rw[List.mapM_cons];have hl:(loadVar T ⟨b,o',none⟩).run cx.P w=.ok z w:=by simpa[Instr.loadAt,Instr.sureAddr]using hrun
       simp[pg,e1,Array.getD_eq_getD_getElem?,hx,hx',asAddr,hl]
      ·cases i with
       | zero=>simp at hv hy;subst hv;subst hy;exact hrz
       | succ i=>exact e3 i v' y (by simpa using hv) (by simpa using hy)
     ·cases h3
def vh:List Value→Value
 | [v]=>v
 | l=>.tuple l.toArray
theorem Vx(fn:Func)(tmps:Array Value):results fn tmps=(do let vs ← fn.results.mapM (pg tmps);pure (if h:vs.size=1 then vs[0] else .tuple vs)):=by
 unfold results;congr 1
theorem Nd{P:Program}{w:World}{fn:Func}{tmps:Array Value}{vs:List Value}(h:(fn.results.toList.mapM (pg tmps)).run P w=.ok vs w):
  (results fn tmps).run P w=.ok (vh vs) w:=by
 rw[Vx,Array.mapM_eq_mapM_toList];simp only[Sem.run_bind,Sem.run_map,h,Result.andThen_ok,Sem.run_pure];congr 1
 match vs with
 | []=>simp[vh]
 | [v]=>simp[vh]
 | v::u::r=>simp[vh]
theorem j7{cx:Cx}{fn:Func}{s:AS}{Q:AV→AS→Prop}{l:List AV}{rs:Array ResultVar}(hrs:fn.results=rs)(h:eT cx.P s rs.toList=some l)(hq:Q (kP l) s):VE cx (bodyPost cx.P fn (bC cx.M cx.w0 Q)) [] .ret s:=fun a w ι hsim=>by
 obtain⟨vs,e1,e2,e3⟩:=uh hsim h;refine⟨hsim.dfr,_,Nd (by rw[hrs];exact e1),_,kP l,s,ι,rfl,hq,hsim.hs,?_⟩
 match l,vs,e2,e3 with
 | [],[],_,e3=>exact .tup _ _ _ rfl (fun i x v hx _=>by simp at hx)
 | [v],[y],_,e3=>exact e3 0 v y rfl rfl
 | v::u::r,y::z::q,e2,e3=>exact .tup _ _ _ e2 e3
def co (P:Program) (f:FuncId):Bool:=match P.funcs[f]? with | some fn=>!(fn.name == "runtime.NumGoroutine") && !fn.body.isNone | none=>false
theorem Dc{P:Program}{w:World}{f:FuncId}(h:co P f=true)(xs:Array Value):(callFunc f xs).run P w=.ok (.enter f xs) w:=by
 unfold co at h;cases hf:P.funcs[f]? with
 | none=>simp[hf]at h
 | some fn =>
  simp only[hf,Bool.and_eq_true,Bool.not_eq_true',beq_eq_false_iff_ne,ne_eq]at h;unfold callFunc;simp only[Sem.run_bind,run_program,Result.andThen_ok,hf];rw[if_neg (by simpa using h.1),if_neg (by simp[h.2])];rfl
def eg:AV→AV
 | .agg cs=>.agg (cs.map eV)
 | v=>eV v
theorem qb{N:Nat→Prop}{w:World}{ι:Env}{v:AV}{x:Value}(h:Rel N w ι v x):Rel N w ι (eg v) x:=by
 cases h with
 | agg _ cs vs hl h1 hr =>
  have c:=(Cells.mk hl h1 hr:Cells N w ι cs vs).pz;exact .agg _ _ _ c.len c.one c.rel
 | nils _=>exact .sl0 _ _ _
 | _=>simp only[eg,eV];constructor<;>assumption
theorem SC{cx:Cx}{s:AS}{a:Act}{w:World}{ι:Env}(h:aU cx s a w ι){xs:Array Operand}{l:List AV}(hl:cN s xs.toList=some l)(hp:dc [] l=true):mu (NN cx.M ι) w (l.map eg) (xs.map a.eval):=by
 obtain⟨e1,e2⟩:=ij h hl;refine⟨by simp at e1;simp[e1],fun i v y hv hy=>?_⟩;rw[List.getElem?_map]at hv;cases e:l[i]? with
 | none=>rw[e]at hv;cases hv
 | some c =>
  rw[e]at hv;injection hv with hv;subst hv
  have hy':(xs.toList.map a.eval)[i]?=some y:=by rw[←Array.toList_map];simpa using hy
  exact qb ((e2 i c y e hy').pure (iz hp i c e) bD)
theorem HS.iZ{M:Nat→Prop}{w0:aB}{w w':World}{ι:Env}{s:AS}(h:HS M w0 w ι s)(hb:Below w.heap.size w w'):HS M w0 w' ι s:=by
 have bR:∀b,b<w.heap.size→¬ NN M ι b→w'.heap[b]?=w.heap[b]?:=fun b hlt _=>hb.block b hlt;refine⟨h.below.trans (.of hb h.below.size),h.old,h.use,fun i g hg'=>⟨(h.own i g hg').1,by have:=(h.own i g hg').2;have:=hb.size;omega⟩,h.inj,h.ko,h.kr,fun i cs hi hp=>?_,fun i ar hi hp=>?_,h.pin⟩
 ·obtain⟨g,T,vs,e1,e2,e3⟩:=h.objs i cs hi hp;exact⟨g,T,vs,e1,(hb.block g (h.own i g (by rw[e1];rfl)).2).trans e2,e3.mono hb.size (fun b _ hb=>hb) bR (fun _ _ h=>h)⟩
 ·obtain⟨v',xs,e1,e2,e3,e4,e5⟩:=h.arrs i ar hi hp;refine⟨v',xs,e1,d4 e2 (fun g hg'=>hb.block g (h.own i g (by rw[e1];exact hg')).2),e3,e4,fun j e hj k' c' hk'=>?_⟩;obtain⟨y,hy,hry⟩:=e5 j e hj k' c' hk';exact⟨y,hy,hry.mono hb.size (fun b _ hb=>hb) bR (fun _ h=>h) (fun r h'=>hb.block r (h.fV h')) (fun h=>h)⟩
theorem aU.iZ{cx:Cx}{s:AS}{a:Act}{w w':World}{ι:Env}(h:aU cx s a w ι)(hb:Below w.heap.size w w'):aU cx s a w' ι :=
 h.world (h.hs.iZ hb) rfl hb.size (fun b _ hb=>hb) (fun b hlt _=>hb.block b hlt) (fun _ _ h=>h)
theorem gE{cx:Cx}{s:AS}{a:Act}{w:World}{ι:Env}(hs:aU cx s a w ι){o:Oper}{c:Call}{fo:Operand}{f:FuncId}{aK:List AV}(ho:o.op=.call c)(hcal:c.callee=.value fo)(hf:s.ev fo=some (.fn f aK))(hcl:co cx.P f=true):
  ∃ys:List Value,(execOp a.eval o).run cx.P w=.ok (.enter f (c.args.map a.eval++ys.toArray)) w∧aK.length=ys.length∧∀(i:Nat) (c:AV) (y:Value),aK[i]?=some c→ys[i]?=some y→Rel (NN cx.M ι) w bD c y:=by
 have hr:=hs.ev hf;generalize hX:a.eval fo=X at hr;cases hr with
 | fn _ _ _ ys hl hr =>
  refine⟨ys,?_,hl,hr⟩;unfold execOp;simp only[ho,resolve,hcal,hX,Deferred.ofValue,Sem.run_bind,Sem.run_pure,Result.andThen_ok,invoke];rw[Dc hcl];simp
theorem oh{cx:Cx}{s:AS}{a:Act}{w:World}{ι:Env}(h:aU cx s a w ι){xs:Array Operand}{l:List AV}(hl:cN s xs.toList=some l)(hp:dc [] l=true){aK:List AV}{ys:List Value}(hc:aK.length=ys.length)
  (hr:∀(i:Nat) (c:AV) (y:Value),aK[i]?=some c→ys[i]?=some y→Rel (NN cx.M ι) w bD c y):mu (NN cx.M ι) w (l.map eg++aK) (xs.map a.eval++ys.toArray):=by
 have h1:=SC h hl hp;have hsz:=h1.1;refine⟨by simp at hsz⊢;omega,fun i v y hv hy=>?_⟩;by_cases hi:i<(l.map eg).length
 ·rw[List.getElem?_append_left hi]at hv;rw[Array.getElem?_append_left (by rw[←hsz];exact hi)]at hy;exact h1.2 i v y hv hy
 ·rw[List.getElem?_append_right (by omega)]at hv;rw[Array.getElem?_append_right (by rw[←hsz];omega)]at hy;rw[hsz]at hv;exact hr _ v y hv (by simpa using hy)
theorem aax{cx:Cx}{Q:Exit→Act→World→Prop}{ks:List ao}{s:AS}{all:Array Oper}{o:Oper}{r:List Oper}{c:Call}{fo:Operand}{f:FuncId}{aK l:List AV}{Qf:AV→AS→Prop}
  (hc:aW cx.P f (l.map eg++aK) Qf)
  (hg:o.guard=none) (ho:o.op=.call c) (hcal:c.callee=.value fo) (hf:s.ev fo=some (.fn f aK)) (hcl:co cx.P f=true) (hd:cq cx.n o.dst=true) (hl:cN s c.args.toList=some l) (hp:dc [] l=true)
  (k:∀v s1,Qf v s1→v.cK []=true∧OT cx Q ks all r (s.put o.dst v)):OT cx Q ks all (o::r) s:=fun a w ι hs=>by
 refine wpList_plain hg fun K hK=>?_;unfold Oper.wp;obtain⟨ys,hrc,hc1,hc2⟩:=gE hs ho hcal hf hcl;rw[hrc,Oper.upon_enter];refine (hc (NN cx.M ι) w _ (fun b hb=>iB hs.hs hb) (oh hs hl hp hc1 hc2)).mono ?_
 rintro e w' ⟨x,v,s1,ι1,rfl,hq,hhs,hr⟩
 obtain⟨hpure,hk⟩:=k v s1 hq;have h3:Rel (NN cx.M ι) w' ι v x:=(hr.pure hpure ι).mono (Nat.le_refl _) (fun b _ hb=>.inl hb) (fun _ _ _=>rfl) (fun _ _ h=>h);exact hK _ _ (hk _ _ _ ((hs.iZ hhs.below.plain).put (ep hd) h3))
theorem Tx{cx:Cx}{Q:Exit→Act→World→Prop}{ks:List ao}{s:AS}{all:Array Oper}{o:Oper}{r:List Oper}{c:Call}{fo:Operand}{f:FuncId}{aK l args:List AV}{V:AV}
  (hc:aW cx.P f args (fun v _=>v=V))
  (hg:o.guard=none) (ho:o.op=.call c) (hcal:c.callee=.value fo) (hf:s.ev fo=some (.fn f aK)) (hcl:co cx.P f=true) (hd:cq cx.n o.dst=true) (hl:cN s c.args.toList=some l) (ha:l.map eg++aK=args) (hp:dc [] l=true)
  (hv:V.cK []=true) (k:OT cx Q ks all r (s.put o.dst V)):OT cx Q ks all (o::r) s :=
 aax (l:=l) (ha ▸ hc) hg ho hcal hf hcl hd hl hp (fun v s1 h=>by subst h;exact⟨hv,k⟩)
end Go.Proofs.YtocgkfoifehcbaaGreat

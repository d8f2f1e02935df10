/- Code on abstract states: rules for each form of code, for calls, loops, returns. No program in sight. -/
import Derived.Test.YtocgkfoifehcbaaGreatRfAop4
import Derived.LoopN
namespace Go.Proofs.YtocgkfoifehcbaaGreat
set_option linter.all false
open Go.RowKit
inductive aq where
 | c (c:Code)
 | b (id:Nat)
 | l (back:Act→World→Prop)
def Kw(P:Program)(Q:Exit→Act→World→Prop):List aq→Exit→Act→World→Prop
 | []=>Q
 | .c c::ks=>Exit.then (c.wp P (Kw P Q ks)) (Kw P Q ks)
 | .b id::ks=>Exit.inBlock id (Kw P Q ks)
 | .l back::ks=>Exit.then back (Kw P Q ks)
def VE(cx:Cx)(Q:Exit→Act→World→Prop)(ks:List aq)(e:Exit)(s:AS):Prop:=∀a w ι,aN cx s a w ι→Kw cx.P Q ks e a w
def OT(cx:Cx)(Q:Exit→Act→World→Prop)(ks:List aq)(all:Array Oper)(l:List Oper)(s:AS):Prop:=∀a w ι,aN cx s a w ι→wpList cx.P all (Kw cx.P Q ks) l a w
section
variable{cx:Cx}{Q:Exit→Act→World→Prop}{ks:List aq}{s:AS}
theorem Ma(h:VE cx Q ks .normal s):VE cx Q (.c .skip::ks) .normal s:=fun a w ι hs=>wp_skip (h a w ι hs)
theorem Sd{x y:Code}(h:VE cx Q (.c x :: .c y::ks) .normal s):VE cx Q (.c (.seq x y)::ks) .normal s:=fun a w ι hs=>wp_seq (h a w ι hs)
theorem Uf{id:Nat}{c:Code}(h:VE cx Q (.c c :: .b id::ks) .normal s):VE cx Q (.c (.block id c)::ks) .normal s:=fun a w ι hs=>wp_block (h a w ι hs)
theorem R5{id:Nat}(h:VE cx Q ks .normal s):VE cx Q (.b id::ks) .normal s:=fun a w ι hs=>h a w ι hs
theorem MZ{id:Nat}(h:VE cx Q ks (.exit id) s):VE cx Q (.c (.exit id)::ks) .normal s:=fun a w ι hs=>wp_exit (h a w ι hs)
theorem Ln(h:VE cx Q ks .ret s):VE cx Q (.c .ret::ks) .normal s:=fun a w ι hs=>wp_ret (h a w ι hs)
theorem R9{id:Nat}{c:Code}(h:VE cx Q ks (.exit id) s):VE cx Q (.c c::ks) (.exit id) s:=fun a w ι hs=>h a w ι hs
theorem VS{id:Nat}{b:Act→World→Prop}(h:VE cx Q ks (.exit id) s):VE cx Q (.l b::ks) (.exit id) s:=fun a w ι hs=>h a w ι hs
theorem Om{id:Nat}(h:VE cx Q ks .normal s):VE cx Q (.b id::ks) (.exit id) s:=fun a w ι hs=>by
 show Exit.inBlock id _ _ _ _;simp only[Exit.inBlock,if_true];exact h a w ι hs
theorem PD{id id':Nat}(hne:¬ id=id')(h:VE cx Q ks (.exit id) s):VE cx Q (.b id'::ks) (.exit id) s:=fun a w ι hs=>by
 show Exit.inBlock id' _ _ _ _;simp only[Exit.inBlock,if_neg hne];exact h a w ι hs
theorem Md{c:Code}(h:VE cx Q ks .ret s):VE cx Q (.c c::ks) .ret s:=fun a w ι hs=>h a w ι hs
theorem RZ{b:Act→World→Prop}(h:VE cx Q ks .ret s):VE cx Q (.l b::ks) .ret s:=fun a w ι hs=>h a w ι hs
theorem LF{id:Nat}(h:VE cx Q ks .ret s):VE cx Q (.b id::ks) .ret s:=fun a w ι hs=>h a w ι hs
theorem JH{c:Operand}{x y:Code}{b:Bool}(hc:s.ev c=some (.bool b))(ht:b=true→VE cx Q (.c x::ks) .normal s)(hf:b=false→VE cx Q (.c y::ks) .normal s):VE cx Q (.c (.cond c x y)::ks) .normal s:=fun a w ι hs=>by
 have h:=hs.ev hc;have hc':a.eval c=.bool b:=by cases h':a.eval c<;>rw[h']at h<;>cases h;rfl
 cases b
 ·exact wp_cond hc' (hf rfl a w ι hs)
 ·exact wp_cond hc' (ht rfl a w ι hs)
theorem Ph{c:Operand}{x y:Code}(hc:s.ev c=some (.bool true))(ht:VE cx Q (.c x::ks) .normal s):VE cx Q (.c (.cond c x y)::ks) .normal s:=JH hc (fun _=>ht) (fun h=>by cases h)
theorem OL{c:Operand}{x y:Code}(hc:s.ev c=some (.bool false))(hf:VE cx Q (.c y::ks) .normal s):VE cx Q (.c (.cond c x y)::ks) .normal s:=JH hc (fun h=>by cases h) (fun _=>hf)
theorem FM{id:Nat}{ops:Array Oper}(h:OT cx Q ks ops ops.toList s):VE cx Q (.c (.region id ops false)::ks) .normal s:=fun a w ι hs=>wp_region_list (h a w ι hs)
theorem DA{all:Array Oper}(h:VE cx Q ks .normal s):OT cx Q ks all [] s:=fun a w ι hs=>h a w ι hs
theorem BL{all:Array Oper}{o:Oper}{r:List Oper}{s':AS}(hg:o.guard=none)(h:bE cx.P cx.n s o=some s')(k:OT cx Q ks all r s'):OT cx Q ks all (o::r) s:=fun a w ι hs=>by
 refine wpList_plain hg fun K hK=>?_;unfold Oper.wp;obtain⟨ι',_,hgood⟩:=DX hs h;obtain⟨x,w',hr,hs'⟩|⟨w',hr,hs'⟩:=hgood
 ·rw[hr];exact hK _ _ (k _ _ _ hs')
 ·rw[hr];exact hK _ _ (k _ _ _ hs')
theorem VG{all:Array Oper}{o og:Oper}{r:List Oper}{j d:Nat}{b:Bool}(hg:o.guard=some (j,b))(hj:all[j]?=some og)(hd:og.dst=some d)(hv:look d s.t=some (.bool b))(k:OT cx Q ks all ({ o with guard:=none }::r) s):OT cx Q ks all (o::r) s:=fun a w ι hs=>by
 have hk:=k a w ι hs;obtain⟨x,hx,hr⟩:=hs.tmp d _ hv;cases hr;have hw:Region.wanted o (yielded all a.tmps)=true:=by simp[Region.wanted,hg,yielded,hj,hd,hx]
 have hw':Region.wanted { o with guard:=none } (yielded all a.tmps)=true:=by simp[Region.wanted]
 unfold wpList at hk⊢;rw[if_pos hw']at hk;rw[if_pos hw];exact hk
def uw(u:List Nat)(l:List (Nat×AV)):List (Nat×AV)→Prop
 | []=>True
 | (k,v)::r=>look k l=some v∧v.cL u=true∧uw u l r
def wM(u:List Nat)(l:List (Nat×List AV)):List (Nat×List AV)→Prop
 | []=>True
 | (k,v)::r=>look k l=some v∧db u v=true∧u.contains k=true∧wM u l r
def xb(u:List Nat)(l:List (Nat×br)):List (Nat×br)→Prop
 | []=>True
 | (k,v)::r=>look k l=some v∧u.contains k=true∧xb u l r
def Sub(s' s:AS):Prop:=uw s'.u s.t s'.t∧wM s'.u s.o s'.o∧xb s'.u s.r s'.r∧∀id,s.u.contains (cK id)=true→s'.u.contains (cK id)=true∧s'.u.contains id=true
theorem Ep{u:List Nat}{l:List (Nat×AV)}:∀{m:List (Nat×AV)},uw u l m→∀k v,look k m=some v→look k l=some v∧v.cL u=true
 | [],_,k,v,hk=>by cases hk
 | (j,x)::r,h,k,v,hk=>by
  simp only[look]at hk;split at hk
  ·rename_i e;subst e;injection hk with hk;subst hk;exact⟨h.1,h.2.1⟩
  ·exact Ep h.2.2 k v hk
theorem AH{u:List Nat}{l:List (Nat×List AV)}:∀{m:List (Nat×List AV)},wM u l m→∀k v,look k m=some v→look k l=some v∧db u v=true∧u.contains k=true
 | [],_,k,v,hk=>by cases hk
 | (j,x)::r,h,k,v,hk=>by
  simp only[look]at hk;split at hk
  ·rename_i e;subst e;injection hk with hk;subst hk;exact⟨h.1,h.2.1,h.2.2.1⟩
  ·exact AH h.2.2.2 k v hk
theorem Bq{u:List Nat}{l:List (Nat×br)}:∀{m:List (Nat×br)},xb u l m→∀k v,look k m=some v→look k l=some v∧u.contains k=true
 | [],_,k,v,hk=>by cases hk
 | (j,x)::r,h,k,v,hk=>by
  simp only[look]at hk;split at hk
  ·rename_i e;subst e;injection hk with hk;subst hk;exact⟨h.1,h.2.1⟩
  ·exact Bq h.2.2 k v hk
def fN(ι:Env)(u:List Nat):Env:=fun i=>if has u i=true then ι i else none
theorem mo{ι:Env}{u:List Nat}{i:Nat}(h:has u i=true):fN ι u i=ι i:=by simp only[fN,h,if_true]
theorem UU{ι:Env}{u:List Nat}{i:Nat}{y:Value}(h:fN ι u i=some y):ι i=some y∧has u i=true:=by
 unfold fN at h;split at h
 ·rename_i hu;exact⟨h,hu⟩
 ·cases h
theorem wR{ι:Env}{u:List Nat}{i g:Nat}(h:bm (fN ι u i)=some g):bm (ι i)=some g:=by
 unfold fN at h;split at h
 ·exact h
 ·cases h
theorem Rel.fN{N N':Nat→Prop}{w:World}{ι:Env}{v:AV}{x:Value}(h:Rel N w ι v x){u:List Nat}(hu:v.cL u=true)(hN:∀b,N' b→N b):Rel N' w (fN ι u) v x :=
 (h.env (ι':=Proofs.YtocgkfoifehcbaaGreat.fN ι u) (fun id hid=>mo (eB hid)) hu).mono (Nat.le_refl _) (fun b _ hb=>hN b hb) (fun _ _ _=>rfl) (fun _ _ h=>h)
theorem Ao{M:Nat→Prop}{ι:Env}{u:List Nat}:∀b,NN M (fN ι u) b→NN M ι b:=fun b hb=>by
 rcases hb with hb|⟨id,hb⟩
 ·exact .inl hb
 ·exact .inr ⟨id,wR hb⟩
theorem HS.sub{M:Nat→Prop}{w0:aE}{w:World}{ι:Env}{s s':AS}(h:HS M w0 w ι s)(hs:Sub s' s):HS M w0 w (fN ι s'.u) s':=by
 refine⟨h.below,h.old,fun i y hy=>(UU hy).2,fun i g hg=>h.own i g (wR hg),fun i i' g hg hg'=>h.inj i i' g (wR hg) (wR hg'),fun i cs hi=>eB (AH hs.2.1 i cs hi).2.2,fun i a hi=>eB (Bq hs.2.2.1 i a hi).2,fun i cs hi hp=>?_,fun i ar hi hp=>?_,fun i y hp=>⟨(mo (eB (hs.2.2.2 i (h.pin i y hp).2).2)).trans (h.pin i y hp).1,(hs.2.2.2 i (h.pin i y hp).2).1⟩⟩
 ·obtain⟨h1,h2,h3⟩:=AH hs.2.1 i cs hi;have h3:=eB h3;rw[mo h3]at hp;obtain⟨g,T,vs,e1,e2,e3⟩:=h.objs i cs h1 hp;exact⟨g,T,vs,(mo h3).trans e1,e2,e3.len,e3.one,fun j x v hx hv=>(e3.rel j x v hx hv).fN (iE h2 j x hx) Ao⟩
 ·obtain⟨h1,h3⟩:=Bq hs.2.2.1 i ar hi;have h3:=eB h3;rw[mo h3]at hp;obtain⟨v,xs,e1,e2,e3,e4,e5⟩:=h.arrs i ar h1 hp;refine⟨v,xs,(mo h3).trans e1,e2,e3,e4,fun j e hj k c hk=>?_⟩;obtain⟨x,hx,hr⟩:=e5 j e hj k c hk;exact⟨x,hx,hr.mono (Nat.le_refl _) (fun b _ hb=>Ao b hb) (fun _ _ _=>rfl) (fun r h'=>(mo (Tg _ _ _)).trans h') (fun _ _=>rfl) (fun h=>h)⟩
theorem aN.sub{s':AS}{a:Act}{w:World}{ι:Env}(h:aN cx s a w ι)(hs:Sub s' s):aN cx s' a w (fN ι s'.u) :=
 ⟨h.hs.sub hs,h.dfr,h.n,fun k v hk=>by
  obtain⟨h1,h2⟩:=Ep hs.1 k v hk;obtain⟨x,hx,hr⟩:=h.tmp k v h1;exact⟨x,hx,hr.fN h2 Ao⟩⟩
theorem FQ{e:Exit}(s':AS)(hs:Sub s' s)(h:VE cx Q ks e s'):VE cx Q ks e s:=fun a w ι hsim=>h a w _ (hsim.sub hs)
end
def ov(N:Nat→Prop)(w:World)(args:List AV)(xs:Array Value):Prop:=args.length=xs.size∧∀(i:Nat) (v:AV) (y:Value),args[i]?=some v→xs[i]?=some y→Rel N w bn v y
def aU(P:Program)(f:FuncId)(args:List AV)(Q:AV→AS→Prop):Prop :=
 ∀(M:Nat→Prop) (w:World) (xs:Array Value),(∀b,M b→b<w.heap.size)→ov M w args xs →
  Calls P f xs w fun e w'=>∃x v s ι,e=.returned x∧Q v s∧HS M (jy w) w' ι s∧Rel (NN M ι) w' ι v x
theorem aU.mono{P:Program}{f:FuncId}{args:List AV}{Q Q':AV→AS→Prop}(h:aU P f args Q)(hq:∀v s,Q v s→Q' v s):aU P f args Q':=fun M w xs h1 h2 =>
 (h M w xs h1 h2).mono fun _ _ ⟨x,v,s,ι,e1,e2,e3,e4⟩=>⟨x,v,s,ι,e1,hq _ _ e2,e3,e4⟩
def idxs(k:Nat):List AV→List (Nat×AV)
 | []=>[]
 | v::r=>(k,v)::idxs (k+1) r
theorem nC:∀(l:List AV) (k i:Nat),look i (idxs k l)=if k≤i then l[i-k]? else none
 | [],k,i=>by simp[idxs,look]
 | v::r,k,i=>by
  simp only[idxs,look,nC r (k+1) i];by_cases h:i=k
  ·subst h;simp
  ·rw[if_neg h];by_cases h2:k+1≤i
   ·have e:i-k=(i-(k+1))+1:=by omega
    rw[if_pos h2,if_pos (by omega),e,List.getElem?_cons_succ]
   ·rw[if_neg h2,if_neg (by omega)]
def bA(M:Nat→Prop)(w:aE)(Q:AV→AS→Prop)(e:Ending)(w':World):Prop:=∃x v s ι,e=.returned x∧Q v s∧HS M w w' ι s∧Rel (NN M ι) w' ι v x
theorem PY{P:Program}{f:FuncId}{fn:Func}{c:Code}{args:List AV}{Q:AV→AS→Prop}(hf:P.funcs[f]?=some fn)(hb:fn.body=some c)(n:Nat)(hn:fn.ntmps=n)(hl:args.length≤n)
  (h:∀M w0,VE ⟨P,n,M,w0⟩ (bodyPost P fn (bA M w0 Q)) [.c c] .normal ⟨idxs 0 args,[],[],[]⟩):aU P f args Q:=by
 intro M w xs hM hx;refine calls_of_wp hf hb ?_;refine wp_mono (h M (jy w) { tmps:=xs++Array.replicate (fn.ntmps-xs.size) undef,defers:=[] } w bn ?_) (fun e a w' hq=>?_)
 ·refine⟨⟨⟨rfl,rfl,rfl,Nat.le_refl _,fun _ _ _=>rfl⟩,fun b hb=>⟨hM b hb,fun h=>h⟩,fun i y hy=>(by cases hy),fun i g hg=>(by cases hg),fun i i' g hg=>(by cases hg),fun i cs hi=>(by cases hi),fun i a hi=>(by cases hi),fun i cs hi=>(by cases hi),fun i a hi=>(by cases hi),fun i v hv=>(by cases hv)⟩,rfl,?_,fun k v hk=>?_⟩
  ·have:=hx.1;simp;omega
  ·rw[nC,if_pos (Nat.zero_le _),Nat.sub_zero]at hk;have hlt:k<xs.size:=by rw[←hx.1];exact(List.getElem?_eq_some_iff.1 hk).1
   refine⟨xs[k],?_,(hx.2 k v _ hk (Array.getElem?_eq_getElem hlt)).mono (Nat.le_refl _) (fun b _ hb=>?_) (fun _ _ _=>rfl) (fun _ _ h=>h)⟩
   ·simp only[];rw[Array.getElem?_append_left hlt,Array.getElem?_eq_getElem hlt]
   ·rcases hb with hb|⟨id,hb⟩
    ·exact hb
    ·cases hb
 ·cases e<;>exact hq
def fC(P:Program)(s:AS):List ResultVar→Option (List AV)
 | []=>some []
 | .tmp t::r=>match look t s.t,fC P s r with|some v,some l=>some (v::l)|_,_=>none
 | .cell t T::r=>match look t s.t with
  | some p=>match jr P s T p,fC P s r with|some v,some l=>some (v::l)|_,_=>none
  | none=>none
def na:List AV→AV
 | [v]=>v
 | l=>.tup l
def s4(tmps:Array Value):ResultVar→Sem Value
 | .tmp t=>pure (tmps.getD t undef)
 | .cell a t=>do loadVar t (← asAddr (tmps.getD a undef))
theorem xc{cx:Cx}{s:AS}{a:Act}{w:World}{ι:Env}(hsim:aN cx s a w ι):∀{rs:List ResultVar} {l:List AV},fC cx.P s rs=some l →
  ∃vs:List Value,(rs.mapM (s4 a.tmps)).run cx.P w=.ok vs w∧l.length=vs.length∧∀(i:Nat) (v:AV) (y:Value),l[i]?=some v→vs[i]?=some y→Rel (NN cx.M ι) w ι v y
 | [],l,h=>by injection h with h;subst h;exact⟨[],by simp,rfl,fun i v y hv _=>by simp at hv⟩
 | .tmp t::r,l,h=>by
  unfold fC at h;cases h1:look t s.t with
  | none=>rw[h1]at h;cases h
  | some v =>
   cases h2:fC cx.P s r with
   | none=>rw[h1,h2]at h;cases h
   | some l' =>
    rw[h1,h2]at h;injection h with h;subst h
    obtain⟨vs,e1,e2,e3⟩:=xc hsim h2;obtain⟨x,hx,hr⟩:=hsim.tmp t v h1;refine⟨x::vs,?_,by simp[e2],fun i v' y hv hy=>?_⟩
    ·rw[List.mapM_cons];simp[s4,e1,Array.getD_eq_getD_getElem?,hx]
    ·cases i with
     | zero=>simp at hv hy;subst hv;subst hy;exact hr
     | succ i=>exact e3 i v' y (by simpa using hv) (by simpa using hy)
 | .cell t T::r,l,h=>by
  unfold fC at h;cases h1:look t s.t with
  | none=>rw[h1]at h;cases h
  | some p =>
   simp only[h1]at h;cases h3:jr cx.P s T p with
   | none=>rw[h3]at h;cases h
   | some v =>
    cases h2:fC cx.P s r with
    | none=>rw[h3,h2]at h;cases h
    | some l' =>
     rw[h3,h2]at h;injection h with h;subst h
     obtain⟨vs,e1,e2,e3⟩:=xc hsim h2;obtain⟨x,hx,hr⟩:=hsim.tmp t p h1;unfold jr at h3;split at h3
     ·rename_i cs hm;obtain⟨b,o',vl,hx',hcells⟩:=Ge hsim hr hm;obtain⟨z,hrun,hrz⟩:=Es h3 hcells;refine⟨z::vs,?_,by simp[e2],fun i v' y hv hy=>?_⟩
      ·rw[List.mapM_cons];have hl:(loadVar T ⟨b,o',none⟩).run cx.P w=.ok z w:=by simpa[Instr.loadAt,Instr.sureAddr]using hrun
       simp[s4,e1,Array.getD_eq_getD_getElem?,hx,hx',asAddr,hl]
      ·cases i with
       | zero=>simp at hv hy;subst hv;subst hy;exact hrz
       | succ i=>exact e3 i v' y (by simpa using hv) (by simpa using hy)
     ·cases h3
def vq:List Value→Value
 | [v]=>v
 | l=>.tuple l.toArray
theorem SP(fn:Func)(tmps:Array Value):results fn tmps=(do let vs ← fn.results.mapM (s4 tmps);pure (if h:vs.size=1 then vs[0] else .tuple vs)):=by
 unfold results;congr 1
theorem Je{P:Program}{w:World}{fn:Func}{tmps:Array Value}{vs:List Value}(h:(fn.results.toList.mapM (s4 tmps)).run P w=.ok vs w):
  (results fn tmps).run P w=.ok (vq vs) w:=by
 rw[SP,Array.mapM_eq_mapM_toList];simp only[Sem.run_bind,Sem.run_map,h,Result.andThen_ok,Sem.run_pure];congr 1
 match vs with
 | []=>simp[vq]
 | [v]=>simp[vq]
 | v::u::r=>simp[vq]
theorem oM{cx:Cx}{fn:Func}{s:AS}{Q:AV→AS→Prop}{l:List AV}{rs:Array ResultVar}(hrs:fn.results=rs)(h:fC cx.P s rs.toList=some l)(hq:Q (na l) s):VE cx (bodyPost cx.P fn (bA cx.M cx.w0 Q)) [] .ret s:=fun a w ι hsim=>by
 obtain⟨vs,e1,e2,e3⟩:=xc hsim h;refine⟨hsim.dfr,_,Je (by rw[hrs];exact e1),_,na l,s,ι,rfl,hq,hsim.hs,?_⟩
 match l,vs,e2,e3 with
 | [],[],_,e3=>exact .tup _ _ _ rfl (fun i x v hx _=>by simp at hx)
 | [v],[y],_,e3=>exact e3 0 v y rfl rfl
 | v::u::r,y::z::q,e2,e3=>exact .tup _ _ _ e2 e3
def cf (P:Program) (f:FuncId):Bool:=match P.funcs[f]? with | some fn=>!(fn.name == "runtime.NumGoroutine") && !fn.body.isNone | none=>false
theorem zF{P:Program}{w:World}{f:FuncId}(h:cf P f=true)(xs:Array Value):(callFunc f xs).run P w=.ok (.enter f xs) w:=by
 unfold cf at h;cases hf:P.funcs[f]? with
 | none=>simp[hf]at h
 | some fn =>
  simp only[hf,Bool.and_eq_true,Bool.not_eq_true',beq_eq_false_iff_ne,ne_eq]at h;unfold callFunc;simp only[Sem.run_bind,run_program,Result.andThen_ok,hf];rw[if_neg (by simpa using h.1),if_neg (by simp[h.2])];rfl
def fP:AV→AV
 | .agg cs=>.agg (cs.map fK)
 | v=>fK v
theorem wJ{N:Nat→Prop}{w:World}{ι:Env}{v:AV}{x:Value}(h:Rel N w ι v x):Rel N w ι (fP v) x:=by
 cases h with
 | agg _ cs vs hl h1 hr =>
  have c:=(Cells.mk hl h1 hr:Cells N w ι cs vs).pz;exact .agg _ _ _ c.len c.one c.rel
 | nils _=>exact .sl0 _ _ _
 | _=>simp only[fP,fK];constructor<;>assumption
theorem SL{cx:Cx}{s:AS}{a:Act}{w:World}{ι:Env}(h:aN cx s a w ι){xs:Array Operand}{l:List AV}(hl:cG s xs.toList=some l)(hp:db [] l=true):ov (NN cx.M ι) w (l.map fP) (xs.map a.eval):=by
 obtain⟨e1,e2⟩:=jo h hl;refine⟨by simp at e1;simp[e1],fun i v y hv hy=>?_⟩;rw[List.getElem?_map]at hv;cases e:l[i]? with
 | none=>rw[e]at hv;cases hv
 | some c =>
  rw[e]at hv;injection hv with hv;subst hv
  have hy':(xs.toList.map a.eval)[i]?=some y:=by rw[←Array.toList_map];simpa using hy
  exact wJ ((e2 i c y e hy').pure (iE hp i c e) bn)
theorem HS.ji{M:Nat→Prop}{w0:aE}{w w':World}{ι:Env}{s:AS}(h:HS M w0 w ι s)(hb:Below w.heap.size w w'):HS M w0 w' ι s:=by
 have bI:∀b,b<w.heap.size→¬ NN M ι b→w'.heap[b]?=w.heap[b]?:=fun b hlt _=>hb.block b hlt;refine⟨h.below.trans (.of hb h.below.size),h.old,h.use,fun i g hg'=>⟨(h.own i g hg').1,by have:=(h.own i g hg').2;have:=hb.size;omega⟩,h.inj,h.ko,h.kr,fun i cs hi hp=>?_,fun i ar hi hp=>?_,h.pin⟩
 ·obtain⟨g,T,vs,e1,e2,e3⟩:=h.objs i cs hi hp;exact⟨g,T,vs,e1,(hb.block g (h.own i g (by rw[e1];rfl)).2).trans e2,e3.mono hb.size (fun b _ hb=>hb) bI (fun _ _ h=>h)⟩
 ·obtain⟨v',xs,e1,e2,e3,e4,e5⟩:=h.arrs i ar hi hp;refine⟨v',xs,e1,eo e2 (fun g hg'=>hb.block g (h.own i g (by rw[e1];exact hg')).2),e3,e4,fun j e hj k' c' hk'=>?_⟩;obtain⟨y,hy,hry⟩:=e5 j e hj k' c' hk';exact⟨y,hy,hry.mono hb.size (fun b _ hb=>hb) bI (fun _ h=>h) (fun r h'=>hb.block r (h.iJ h')) (fun h=>h)⟩
theorem aN.ji{cx:Cx}{s:AS}{a:Act}{w w':World}{ι:Env}(h:aN cx s a w ι)(hb:Below w.heap.size w w'):aN cx s a w' ι :=
 h.world (h.hs.ji hb) rfl hb.size (fun b _ hb=>hb) (fun b hlt _=>hb.block b hlt) (fun _ _ h=>h)
theorem iR{cx:Cx}{s:AS}{a:Act}{w:World}{ι:Env}(hs:aN cx s a w ι){o:Oper}{c:Call}{fo:Operand}{f:FuncId}{aP:List AV}(ho:o.op=.call c)(hcal:c.callee=.value fo)(hf:s.ev fo=some (.fn f aP))(hcl:cf cx.P f=true):
  ∃ys:List Value,(execOp a.eval o).run cx.P w=.ok (.enter f (c.args.map a.eval++ys.toArray)) w∧aP.length=ys.length∧∀(i:Nat) (c:AV) (y:Value),aP[i]?=some c→ys[i]?=some y→Rel (NN cx.M ι) w bn c y:=by
 have hr:=hs.ev hf;generalize hX:a.eval fo=X at hr;cases hr with
 | fn _ _ _ ys hl hr =>
  refine⟨ys,?_,hl,hr⟩;unfold execOp;simp only[ho,resolve,hcal,hX,Deferred.ofValue,Sem.run_bind,Sem.run_pure,Result.andThen_ok,invoke];rw[zF hcl];simp
theorem tq{cx:Cx}{s:AS}{a:Act}{w:World}{ι:Env}(h:aN cx s a w ι){xs:Array Operand}{l:List AV}(hl:cG s xs.toList=some l)(hp:db [] l=true){aP:List AV}{ys:List Value}(hc:aP.length=ys.length)
  (hr:∀(i:Nat) (c:AV) (y:Value),aP[i]?=some c→ys[i]?=some y→Rel (NN cx.M ι) w bn c y):ov (NN cx.M ι) w (l.map fP++aP) (xs.map a.eval++ys.toArray):=by
 have h1:=SL h hl hp;have hsz:=h1.1;refine⟨by simp at hsz⊢;omega,fun i v y hv hy=>?_⟩;by_cases hi:i<(l.map fP).length
 ·rw[List.getElem?_append_left hi]at hv;rw[Array.getElem?_append_left (by rw[←hsz];exact hi)]at hy;exact h1.2 i v y hv hy
 ·rw[List.getElem?_append_right (by omega)]at hv;rw[Array.getElem?_append_right (by rw[←hsz];omega)]at hy;rw[hsz]at hv;exact hr _ v y hv (by simpa using hy)
theorem ND{cx:Cx}{Q:Exit→Act→World→Prop}{ks:List aq}{s:AS}{all:Array Oper}{o:Oper}{r:List Oper}{c:Call}{fo:Operand}{f:FuncId}{aP l:List AV}{Qf:AV→AS→Prop}
  (hc:aU cx.P f (l.map fP++aP) Qf)
  (hg:o.guard=none) (ho:o.op=.call c) (hcal:c.callee=.value fo) (hf:s.ev fo=some (.fn f aP)) (hcl:cf cx.P f=true) (hd:cm cx.n o.dst=true) (hl:cG s c.args.toList=some l) (hp:db [] l=true)
  (k:∀v s1,Qf v s1→v.cL []=true∧OT cx Q ks all r (s.put o.dst v)):OT cx Q ks all (o::r) s:=fun a w ι hs=>by
 refine wpList_plain hg fun K hK=>?_;unfold Oper.wp;obtain⟨ys,hrc,hc1,hc2⟩:=iR hs ho hcal hf hcl;rw[hrc,Oper.upon_enter];refine (hc (NN cx.M ι) w _ (fun b hb=>jH hs.hs hb) (tq hs hl hp hc1 hc2)).mono ?_
 rintro e w' ⟨x,v,s1,ι1,rfl,hq,hhs,hr⟩
 obtain⟨hpure,hk⟩:=k v s1 hq;have h3:Rel (NN cx.M ι) w' ι v x:=(hr.pure hpure ι).mono (Nat.le_refl _) (fun b _ hb=>.inl hb) (fun _ _ _=>rfl) (fun _ _ h=>h);exact hK _ _ (hk _ _ _ ((hs.ji hhs.below.plain).put (eN hd) h3))
theorem Qr{cx:Cx}{Q:Exit→Act→World→Prop}{ks:List aq}{s:AS}{all:Array Oper}{o:Oper}{r:List Oper}{c:Call}{fo:Operand}{f:FuncId}{aP l args:List AV}{V:AV}
  (hc:aU cx.P f args (fun v _=>v=V))
  (hg:o.guard=none) (ho:o.op=.call c) (hcal:c.callee=.value fo) (hf:s.ev fo=some (.fn f aP)) (hcl:cf cx.P f=true) (hd:cm cx.n o.dst=true) (hl:cG s c.args.toList=some l) (ha:l.map fP++aP=args) (hp:db [] l=true)
  (hv:V.cL []=true) (k:OT cx Q ks all r (s.put o.dst V)):OT cx Q ks all (o::r) s :=
 ND (l:=l) (ha ▸ hc) hg ho hcal hf hcl hd hl hp (fun v s1 h=>by subst h;exact⟨hv,k⟩)
end Go.Proofs.YtocgkfoifehcbaaGreat

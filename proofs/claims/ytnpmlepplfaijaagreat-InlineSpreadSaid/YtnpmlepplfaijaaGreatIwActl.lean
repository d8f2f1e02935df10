/- Code on abstract states: rules for each form of code, for calls, loops, returns. No program in sight. -/
import Derived.Test.YtnpmlepplfaijaaGreatIwAop4
import Derived.LoopN
namespace Go.Proofs.YtnpmlepplfaijaaGreat
set_option linter.all false
open Go.RowKit
inductive aq where
 | c (c:Code)
 | b (id:Nat)
 | l (back:Act→World→Prop)
def Kw(P:Program)(Q:Exit→Act→World→Prop):List aq→Exit→Act→World→Prop
 | []=>Q
 | .c c::ks=>Exit.then (c.wp P (Kw P Q ks)) (Kw P Q ks)
 | .b id::ks=>Exit.inBlock id (Kw P Q ks)
 | .l back::ks=>Exit.then back (Kw P Q ks)
def VE(cx:Cx)(Q:Exit→Act→World→Prop)(ks:List aq)(e:Exit)(s:AS):Prop:=∀a w ι,aR cx s a w ι→Kw cx.P Q ks e a w
def OT(cx:Cx)(Q:Exit→Act→World→Prop)(ks:List aq)(all:Array Oper)(l:List Oper)(s:AS):Prop:=∀a w ι,aR cx s a w ι→wpList cx.P all (Kw cx.P Q ks) l a w
section
variable{cx:Cx}{Q:Exit→Act→World→Prop}{ks:List aq}{s:AS}
theorem Vh(h:VE cx Q ks .normal s):VE cx Q (.c .skip::ks) .normal s:=fun a w ι hs=>wp_skip (h a w ι hs)
theorem Tv{x y:Code}(h:VE cx Q (.c x :: .c y::ks) .normal s):VE cx Q (.c (.seq x y)::ks) .normal s:=fun a w ι hs=>wp_seq (h a w ι hs)
theorem PY{id:Nat}{c:Code}(h:VE cx Q (.c c :: .b id::ks) .normal s):VE cx Q (.c (.block id c)::ks) .normal s:=fun a w ι hs=>wp_block (h a w ι hs)
theorem OA{id:Nat}(h:VE cx Q ks .normal s):VE cx Q (.b id::ks) .normal s:=fun a w ι hs=>h a w ι hs
theorem aaV{id:Nat}(h:VE cx Q ks (.exit id) s):VE cx Q (.c (.exit id)::ks) .normal s:=fun a w ι hs=>wp_exit (h a w ι hs)
theorem TN(h:VE cx Q ks .ret s):VE cx Q (.c .ret::ks) .normal s:=fun a w ι hs=>wp_ret (h a w ι hs)
theorem abv{id:Nat}{c:Code}(h:VE cx Q ks (.exit id) s):VE cx Q (.c c::ks) (.exit id) s:=fun a w ι hs=>h a w ι hs
theorem Xe{id:Nat}{b:Act→World→Prop}(h:VE cx Q ks (.exit id) s):VE cx Q (.l b::ks) (.exit id) s:=fun a w ι hs=>h a w ι hs
theorem WH{id:Nat}(h:VE cx Q ks .normal s):VE cx Q (.b id::ks) (.exit id) s:=fun a w ι hs=>by
 show Exit.inBlock id _ _ _ _;simp only[Exit.inBlock,if_true];exact h a w ι hs
theorem PB{id id':Nat}(hne:¬ id=id')(h:VE cx Q ks (.exit id) s):VE cx Q (.b id'::ks) (.exit id) s:=fun a w ι hs=>by
 show Exit.inBlock id' _ _ _ _;simp only[Exit.inBlock,if_neg hne];exact h a w ι hs
theorem TR{c:Code}(h:VE cx Q ks .ret s):VE cx Q (.c c::ks) .ret s:=fun a w ι hs=>h a w ι hs
theorem RW{b:Act→World→Prop}(h:VE cx Q ks .ret s):VE cx Q (.l b::ks) .ret s:=fun a w ι hs=>h a w ι hs
theorem Q6{id:Nat}(h:VE cx Q ks .ret s):VE cx Q (.b id::ks) .ret s:=fun a w ι hs=>h a w ι hs
theorem Iu{c:Operand}{x y:Code}{b:Bool}(hc:s.ev c=some (.bool b))(ht:b=true→VE cx Q (.c x::ks) .normal s)(hf:b=false→VE cx Q (.c y::ks) .normal s):VE cx Q (.c (.cond c x y)::ks) .normal s:=fun a w ι hs=>by
 have h:=hs.ev hc;have hc':a.eval c=.bool b:=by cases h':a.eval c<;>rw[h']at h<;>cases h;rfl
 cases b
 ·exact wp_cond hc' (hf rfl a w ι hs)
 ·exact wp_cond hc' (ht rfl a w ι hs)
theorem WF{c:Operand}{x y:Code}(hc:s.ev c=some (.bool true))(ht:VE cx Q (.c x::ks) .normal s):VE cx Q (.c (.cond c x y)::ks) .normal s:=Iu hc (fun _=>ht) (fun h=>by cases h)
theorem Qd{c:Operand}{x y:Code}(hc:s.ev c=some (.bool false))(hf:VE cx Q (.c y::ks) .normal s):VE cx Q (.c (.cond c x y)::ks) .normal s:=Iu hc (fun h=>by cases h) (fun _=>hf)
theorem Gj{id:Nat}{ops:Array Oper}(h:OT cx Q ks ops ops.toList s):VE cx Q (.c (.region id ops false)::ks) .normal s:=fun a w ι hs=>wp_region_list (h a w ι hs)
theorem Ms{all:Array Oper}(h:VE cx Q ks .normal s):OT cx Q ks all [] s:=fun a w ι hs=>h a w ι hs
theorem Ce{all:Array Oper}{o:Oper}{r:List Oper}{s':AS}(hg:o.guard=none)(h:br cx.P cx.n s o=some s')(k:OT cx Q ks all r s'):OT cx Q ks all (o::r) s:=fun a w ι hs=>by
 refine wpList_plain hg fun K hK=>?_;unfold Oper.wp;obtain⟨ι',_,hgood⟩:=MA hs h;obtain⟨x,w',hr,hs'⟩|⟨w',hr,hs'⟩:=hgood
 ·rw[hr];exact hK _ _ (k _ _ _ hs')
 ·rw[hr];exact hK _ _ (k _ _ _ hs')
theorem YR{all:Array Oper}{o og:Oper}{r:List Oper}{j d:Nat}{b:Bool}(hg:o.guard=some (j,b))(hj:all[j]?=some og)(hd:og.dst=some d)(hv:look d s.t=some (.bool b))(k:OT cx Q ks all ({ o with guard:=none }::r) s):OT cx Q ks all (o::r) s:=fun a w ι hs=>by
 have hk:=k a w ι hs;obtain⟨x,hx,hr⟩:=hs.tmp d _ hv;cases hr;have hw:Region.wanted o (yielded all a.tmps)=true:=by simp[Region.wanted,hg,yielded,hj,hd,hx]
 have hw':Region.wanted { o with guard:=none } (yielded all a.tmps)=true:=by simp[Region.wanted]
 unfold wpList at hk⊢;rw[if_pos hw']at hk;rw[if_pos hw];exact hk
def yu(u:List Nat)(l:List (Nat×AV)):List (Nat×AV)→Prop
 | []=>True
 | (k,v)::r=>look k l=some v∧v.cJ u=true∧yu u l r
def zE(u:List Nat)(l:List (Nat×List AV)):List (Nat×List AV)→Prop
 | []=>True
 | (k,v)::r=>look k l=some v∧cZ u v=true∧u.contains k=true∧zE u l r
def z5(u:List Nat)(l:List (Nat×bo)):List (Nat×bo)→Prop
 | []=>True
 | (k,v)::r=>look k l=some v∧u.contains k=true∧z5 u l r
def Sub(s' s:AS):Prop:=yu s'.u s.t s'.t∧zE s'.u s.o s'.o∧z5 s'.u s.r s'.r∧∀id,s.u.contains (cW id)=true→s'.u.contains (cW id)=true∧s'.u.contains id=true
theorem N0{u:List Nat}{l:List (Nat×AV)}:∀{m:List (Nat×AV)},yu u l m→∀k v,look k m=some v→look k l=some v∧v.cJ u=true
 | [],_,k,v,hk=>by cases hk
 | (j,x)::r,h,k,v,hk=>by
  simp only[look]at hk;split at hk
  ·rename_i e;subst e;injection hk with hk;subst hk;exact⟨h.1,h.2.1⟩
  ·exact N0 h.2.2 k v hk
theorem Cp{u:List Nat}{l:List (Nat×List AV)}:∀{m:List (Nat×List AV)},zE u l m→∀k v,look k m=some v→look k l=some v∧cZ u v=true∧u.contains k=true
 | [],_,k,v,hk=>by cases hk
 | (j,x)::r,h,k,v,hk=>by
  simp only[look]at hk;split at hk
  ·rename_i e;subst e;injection hk with hk;subst hk;exact⟨h.1,h.2.1,h.2.2.1⟩
  ·exact Cp h.2.2.2 k v hk
theorem Bp{u:List Nat}{l:List (Nat×bo)}:∀{m:List (Nat×bo)},z5 u l m→∀k v,look k m=some v→look k l=some v∧u.contains k=true
 | [],_,k,v,hk=>by cases hk
 | (j,x)::r,h,k,v,hk=>by
  simp only[look]at hk;split at hk
  ·rename_i e;subst e;injection hk with hk;subst hk;exact⟨h.1,h.2.1⟩
  ·exact Bp h.2.2 k v hk
def gt(ι:Env)(u:List Nat):Env:=fun i=>if has u i=true then ι i else none
theorem pZ{ι:Env}{u:List Nat}{i:Nat}(h:has u i=true):gt ι u i=ι i:=by simp only[gt,h,if_true]
theorem Xk{ι:Env}{u:List Nat}{i:Nat}{y:Value}(h:gt ι u i=some y):ι i=some y∧has u i=true:=by
 unfold gt at h;split at h
 ·rename_i hu;exact⟨h,hu⟩
 ·cases h
theorem zP{ι:Env}{u:List Nat}{i g:Nat}(h:bK (gt ι u i)=some g):bK (ι i)=some g:=by
 unfold gt at h;split at h
 ·exact h
 ·cases h
theorem Rel.gt{N N':Nat→Prop}{w:World}{ι:Env}{v:AV}{x:Value}(h:Rel N w ι v x){u:List Nat}(hu:v.cJ u=true)(hN:∀b,N' b→N b):Rel N' w (gt ι u) v x :=
 (h.env (ι':=Proofs.YtnpmlepplfaijaaGreat.gt ι u) (fun id hid=>pZ (fQ hid)) hu).mono (Nat.le_refl _) (fun b _ hb=>hN b hb) (fun _ _ _=>rfl) (fun _ _ h=>h)
theorem BL{M:Nat→Prop}{ι:Env}{u:List Nat}:∀b,NN M (gt ι u) b→NN M ι b:=fun b hb=>by
 rcases hb with hb|⟨id,hb⟩
 ·exact .inl hb
 ·exact .inr ⟨id,zP hb⟩
theorem HS.sub{M:Nat→Prop}{w0:aF}{w:World}{ι:Env}{s s':AS}(h:HS M w0 w ι s)(hs:Sub s' s):HS M w0 w (gt ι s'.u) s':=by
 refine⟨h.below,h.old,fun i y hy=>(Xk hy).2,fun i g hg=>h.own i g (zP hg),fun i i' g hg hg'=>h.inj i i' g (zP hg) (zP hg'),fun i cs hi=>fQ (Cp hs.2.1 i cs hi).2.2,fun i a hi=>fQ (Bp hs.2.2.1 i a hi).2,fun i cs hi hp=>?_,fun i ar hi hp=>?_,fun i y hp=>⟨(pZ (fQ (hs.2.2.2 i (h.pin i y hp).2).2)).trans (h.pin i y hp).1,(hs.2.2.2 i (h.pin i y hp).2).1⟩⟩
 ·obtain⟨h1,h2,h3⟩:=Cp hs.2.1 i cs hi;have h3:=fQ h3;rw[pZ h3]at hp;obtain⟨g,T,vs,e1,e2,e3⟩:=h.objs i cs h1 hp;exact⟨g,T,vs,(pZ h3).trans e1,e2,e3.len,e3.one,fun j x v hx hv=>(e3.rel j x v hx hv).gt (jI h2 j x hx) BL⟩
 ·obtain⟨h1,h3⟩:=Bp hs.2.2.1 i ar hi;have h3:=fQ h3;rw[pZ h3]at hp;obtain⟨v,xs,e1,e2,e3,e4,e5⟩:=h.arrs i ar h1 hp;refine⟨v,xs,(pZ h3).trans e1,e2,e3,e4,fun j e hj k c hk=>?_⟩;obtain⟨x,hx,hr⟩:=e5 j e hj k c hk;exact⟨x,hx,hr.mono (Nat.le_refl _) (fun b _ hb=>BL b hb) (fun _ _ _=>rfl) (fun r h'=>(pZ (Jw _ _ _)).trans h') (fun _ _=>rfl) (fun h=>h)⟩
theorem aR.sub{s':AS}{a:Act}{w:World}{ι:Env}(h:aR cx s a w ι)(hs:Sub s' s):aR cx s' a w (gt ι s'.u) :=
 ⟨h.hs.sub hs,h.dfr,h.n,fun k v hk=>by
  obtain⟨h1,h2⟩:=N0 hs.1 k v hk;obtain⟨x,hx,hr⟩:=h.tmp k v h1;exact⟨x,hx,hr.gt h2 BL⟩⟩
theorem KI{e:Exit}(s':AS)(hs:Sub s' s)(h:VE cx Q ks e s'):VE cx Q ks e s:=fun a w ι hsim=>h a w _ (hsim.sub hs)
end
def DL(N:Nat→Prop)(w:World)(args:List AV)(xs:Array Value):Prop:=args.length=xs.size∧∀(i:Nat) (v:AV) (y:Value),args[i]?=some v→xs[i]?=some y→Rel N w bO v y
def aO(P:Program)(f:FuncId)(args:List AV)(Q:AV→AS→Prop):Prop :=
 ∀(M:Nat→Prop) (w:World) (xs:Array Value),(∀b,M b→b<w.heap.size)→DL M w args xs →
  Calls P f xs w fun e w'=>∃x v s ι,e=.returned x∧Q v s∧HS M (qT w) w' ι s∧Rel (NN M ι) w' ι v x
theorem aO.mono{P:Program}{f:FuncId}{args:List AV}{Q Q':AV→AS→Prop}(h:aO P f args Q)(hq:∀v s,Q v s→Q' v s):aO P f args Q':=fun M w xs h1 h2 =>
 (h M w xs h1 h2).mono fun _ _ ⟨x,v,s,ι,e1,e2,e3,e4⟩=>⟨x,v,s,ι,e1,hq _ _ e2,e3,e4⟩
def idxs(k:Nat):List AV→List (Nat×AV)
 | []=>[]
 | v::r=>(k,v)::idxs (k+1) r
theorem C4:∀(l:List AV) (k i:Nat),look i (idxs k l)=if k≤i then l[i-k]? else none
 | [],k,i=>by simp[idxs,look]
 | v::r,k,i=>by
  simp only[idxs,look,C4 r (k+1) i];by_cases h:i=k
  ·subst h;simp
  ·rw[if_neg h];by_cases h2:k+1≤i
   ·have e:i-k=(i-(k+1))+1:=by omega
    rw[if_pos h2,if_pos (by omega),e,List.getElem?_cons_succ]
   ·rw[if_neg h2,if_neg (by omega)]
def bu(M:Nat→Prop)(w:aF)(Q:AV→AS→Prop)(e:Ending)(w':World):Prop:=∃x v s ι,e=.returned x∧Q v s∧HS M w w' ι s∧Rel (NN M ι) w' ι v x
theorem Sa{P:Program}{f:FuncId}{fn:Func}{c:Code}{args:List AV}{Q:AV→AS→Prop}(hf:P.funcs[f]?=some fn)(hb:fn.body=some c)(n:Nat)(hn:fn.ntmps=n)(hl:args.length≤n)
  (h:∀M w0,VE ⟨P,n,M,w0⟩ (bodyPost P fn (bu M w0 Q)) [.c c] .normal ⟨idxs 0 args,[],[],[]⟩):aO P f args Q:=by
 intro M w xs hM hx;refine calls_of_wp hf hb ?_;refine wp_mono (h M (qT w) { tmps:=xs++Array.replicate (fn.ntmps-xs.size) undef,defers:=[] } w bO ?_) (fun e a w' hq=>?_)
 ·refine⟨⟨⟨rfl,rfl,rfl,Nat.le_refl _,fun _ _ _=>rfl⟩,fun b hb=>⟨hM b hb,fun h=>h⟩,fun i y hy=>(by cases hy),fun i g hg=>(by cases hg),fun i i' g hg=>(by cases hg),fun i cs hi=>(by cases hi),fun i a hi=>(by cases hi),fun i cs hi=>(by cases hi),fun i a hi=>(by cases hi),fun i v hv=>(by cases hv)⟩,rfl,?_,fun k v hk=>?_⟩
  ·have:=hx.1;simp;omega
  ·rw[C4,if_pos (Nat.zero_le _),Nat.sub_zero]at hk;have hlt:k<xs.size:=by rw[←hx.1];exact(List.getElem?_eq_some_iff.1 hk).1
   refine⟨xs[k],?_,(hx.2 k v _ hk (Array.getElem?_eq_getElem hlt)).mono (Nat.le_refl _) (fun b _ hb=>?_) (fun _ _ _=>rfl) (fun _ _ h=>h)⟩
   ·simp only[];rw[Array.getElem?_append_left hlt,Array.getElem?_eq_getElem hlt]
   ·rcases hb with hb|⟨id,hb⟩
    ·exact hb
    ·cases hb
 ·cases e<;>exact hq
def gu(P:Program)(s:AS):List ResultVar→Option (List AV)
 | []=>some []
 | .tmp t::r=>match look t s.t,gu P s r with|some v,some l=>some (v::l)|_,_=>none
 | .cell t T::r=>match look t s.t with
  | some p=>match jW P s T p,gu P s r with|some v,some l=>some (v::l)|_,_=>none
  | none=>none
def vg:List AV→AV
 | [v]=>v
 | l=>.tup l
def vr(tmps:Array Value):ResultVar→Sem Value
 | .tmp t=>pure (tmps.getD t undef)
 | .cell a t=>do loadVar t (← asAddr (tmps.getD a undef))
theorem Fa{cx:Cx}{s:AS}{a:Act}{w:World}{ι:Env}(hsim:aR cx s a w ι):∀{rs:List ResultVar} {l:List AV},gu cx.P s rs=some l →
  ∃vs:List Value,(rs.mapM (vr a.tmps)).run cx.P w=.ok vs w∧l.length=vs.length∧∀(i:Nat) (v:AV) (y:Value),l[i]?=some v→vs[i]?=some y→Rel (NN cx.M ι) w ι v y
 | [],l,h=>by injection h with h;subst h;exact⟨[],by simp,rfl,fun i v y hv _=>by simp at hv⟩
 | .tmp t::r,l,h=>by
  unfold gu at h;cases h1:look t s.t with
  | none=>rw[h1]at h;cases h
  | some v =>
   cases h2:gu cx.P s r with
   | none=>rw[h1,h2]at h;cases h
   | some l' =>
    rw[h1,h2]at h;injection h with h;subst h
    obtain⟨vs,e1,e2,e3⟩:=Fa hsim h2;obtain⟨x,hx,hr⟩:=hsim.tmp t v h1;refine⟨x::vs,?_,by simp[e2],fun i v' y hv hy=>?_⟩
    ·rw[List.mapM_cons];simp[vr,e1,Array.getD_eq_getD_getElem?,hx]
    ·cases i with
     | zero=>simp at hv hy;subst hv;subst hy;exact hr
     | succ i=>exact e3 i v' y (by simpa using hv) (by simpa using hy)
 | .cell t T::r,l,h=>by
  unfold gu at h;cases h1:look t s.t with
  | none=>rw[h1]at h;cases h
  | some p =>
   simp only[h1]at h;cases h3:jW cx.P s T p with
   | none=>rw[h3]at h;cases h
   | some v =>
    cases h2:gu cx.P s r with
    | none=>rw[h3,h2]at h;cases h
    | some l' =>
     rw[h3,h2]at h;injection h with h;subst h
     obtain⟨vs,e1,e2,e3⟩:=Fa hsim h2;obtain⟨x,hx,hr⟩:=hsim.tmp t p h1;unfold jW at h3;split at h3
     ·rename_i cs hm;obtain⟨b,o',vl,hx',hcells⟩:=LD hsim hr hm;obtain⟨z,hrun,hrz⟩:=Ke h3 hcells;refine⟨z::vs,?_,by simp[e2],fun i v' y hv hy=>?_⟩
      ·rw[List.mapM_cons];have hl:(loadVar T ⟨b,o',none⟩).run cx.P w=.ok z w:=by simpa[Instr.loadAt,Instr.sureAddr]using hrun
       simp[vr,e1,Array.getD_eq_getD_getElem?,hx,hx',asAddr,hl]
      ·cases i with
       | zero=>simp at hv hy;subst hv;subst hy;exact hrz
       | succ i=>exact e3 i v' y (by simpa using hv) (by simpa using hy)
     ·cases h3
def Az:List Value→Value
 | [v]=>v
 | l=>.tuple l.toArray
theorem XX(fn:Func)(tmps:Array Value):results fn tmps=(do let vs ← fn.results.mapM (vr tmps);pure (if h:vs.size=1 then vs[0] else .tuple vs)):=by
 unfold results;congr 1
theorem Ye{P:Program}{w:World}{fn:Func}{tmps:Array Value}{vs:List Value}(h:(fn.results.toList.mapM (vr tmps)).run P w=.ok vs w):
  (results fn tmps).run P w=.ok (Az vs) w:=by
 rw[XX,Array.mapM_eq_mapM_toList];simp only[Sem.run_bind,Sem.run_map,h,Result.andThen_ok,Sem.run_pure];congr 1
 match vs with
 | []=>simp[Az]
 | [v]=>simp[Az]
 | v::u::r=>simp[Az]
theorem tA{cx:Cx}{fn:Func}{s:AS}{Q:AV→AS→Prop}{l:List AV}{rs:Array ResultVar}(hrs:fn.results=rs)(h:gu cx.P s rs.toList=some l)(hq:Q (vg l) s):VE cx (bodyPost cx.P fn (bu cx.M cx.w0 Q)) [] .ret s:=fun a w ι hsim=>by
 obtain⟨vs,e1,e2,e3⟩:=Fa hsim h;refine⟨hsim.dfr,_,Ye (by rw[hrs];exact e1),_,vg l,s,ι,rfl,hq,hsim.hs,?_⟩
 match l,vs,e2,e3 with
 | [],[],_,e3=>exact .tup _ _ _ rfl (fun i x v hx _=>by simp at hx)
 | [v],[y],_,e3=>exact e3 0 v y rfl rfl
 | v::u::r,y::z::q,e2,e3=>exact .tup _ _ _ e2 e3
def cN (P:Program) (f:FuncId):Bool:=match P.funcs[f]? with | some fn=>!(fn.name == "runtime.NumGoroutine") && !fn.body.isNone | none=>false
theorem Gb{P:Program}{w:World}{f:FuncId}(h:cN P f=true)(xs:Array Value):(callFunc f xs).run P w=.ok (.enter f xs) w:=by
 unfold cN at h;cases hf:P.funcs[f]? with
 | none=>simp[hf]at h
 | some fn =>
  simp only[hf,Bool.and_eq_true,Bool.not_eq_true',beq_eq_false_iff_ne,ne_eq]at h;unfold callFunc;simp only[Sem.run_bind,run_program,Result.andThen_ok,hf];rw[if_neg (by simpa using h.1),if_neg (by simp[h.2])];rfl
def gm:AV→AV
 | .agg cs=>.agg (cs.map eD)
 | v=>eD v
theorem xx{N:Nat→Prop}{w:World}{ι:Env}{v:AV}{x:Value}(h:Rel N w ι v x):Rel N w ι (gm v) x:=by
 cases h with
 | agg _ cs vs hl h1 hr =>
  have c:=(Cells.mk hl h1 hr:Cells N w ι cs vs).pz;exact .agg _ _ _ c.len c.one c.rel
 | nils _=>exact .sl0 _ _ _
 | _=>simp only[gm,eD];constructor<;>assumption
theorem abG{cx:Cx}{s:AS}{a:Act}{w:World}{ι:Env}(h:aR cx s a w ι){xs:Array Operand}{l:List AV}(hl:c9 s xs.toList=some l)(hp:cZ [] l=true):DL (NN cx.M ι) w (l.map gm) (xs.map a.eval):=by
 obtain⟨e1,e2⟩:=kD h hl;refine⟨by simp at e1;simp[e1],fun i v y hv hy=>?_⟩;rw[List.getElem?_map]at hv;cases e:l[i]? with
 | none=>rw[e]at hv;cases hv
 | some c =>
  rw[e]at hv;injection hv with hv;subst hv
  have hy':(xs.toList.map a.eval)[i]?=some y:=by rw[←Array.toList_map];simpa using hy
  exact xx ((e2 i c y e hy').pure (jI hp i c e) bO)
theorem HS.jg{M:Nat→Prop}{w0:aF}{w w':World}{ι:Env}{s:AS}(h:HS M w0 w ι s)(hb:Below w.heap.size w w'):HS M w0 w' ι s:=by
 have keep:∀b,b<w.heap.size→¬ NN M ι b→w'.heap[b]?=w.heap[b]?:=fun b hlt _=>hb.block b hlt;refine⟨h.below.trans (.of hb h.below.size),h.old,h.use,fun i g hg'=>⟨(h.own i g hg').1,by have:=(h.own i g hg').2;have:=hb.size;omega⟩,h.inj,h.ko,h.kr,fun i cs hi hp=>?_,fun i ar hi hp=>?_,h.pin⟩
 ·obtain⟨g,T,vs,e1,e2,e3⟩:=h.objs i cs hi hp;exact⟨g,T,vs,e1,(hb.block g (h.own i g (by rw[e1];rfl)).2).trans e2,e3.mono hb.size (fun b _ hb=>hb) keep (fun _ _ h=>h)⟩
 ·obtain⟨v',xs,e1,e2,e3,e4,e5⟩:=h.arrs i ar hi hp;refine⟨v',xs,e1,fz e2 (fun g hg'=>hb.block g (h.own i g (by rw[e1];exact hg')).2),e3,e4,fun j e hj k' c' hk'=>?_⟩;obtain⟨y,hy,hry⟩:=e5 j e hj k' c' hk';exact⟨y,hy,hry.mono hb.size (fun b _ hb=>hb) keep (fun _ h=>h) (fun r h'=>hb.block r (h.jC h')) (fun h=>h)⟩
theorem aR.jg{cx:Cx}{s:AS}{a:Act}{w w':World}{ι:Env}(h:aR cx s a w ι)(hb:Below w.heap.size w w'):aR cx s a w' ι :=
 h.world (h.hs.jg hb) rfl hb.size (fun b _ hb=>hb) (fun b hlt _=>hb.block b hlt) (fun _ _ h=>h)
theorem kM{cx:Cx}{s:AS}{a:Act}{w:World}{ι:Env}(hs:aR cx s a w ι){o:Oper}{c:Call}{fo:Operand}{f:FuncId}{bb:List AV}(ho:o.op=.call c)(hcal:c.callee=.value fo)(hf:s.ev fo=some (.fn f bb))(hcl:cN cx.P f=true):
  ∃ys:List Value,(execOp a.eval o).run cx.P w=.ok (.enter f (c.args.map a.eval++ys.toArray)) w∧bb.length=ys.length∧∀(i:Nat) (c:AV) (y:Value),bb[i]?=some c→ys[i]?=some y→Rel (NN cx.M ι) w bO c y:=by
 have hr:=hs.ev hf;generalize hX:a.eval fo=X at hr;cases hr with
 | fn _ _ _ ys hl hr =>
  refine⟨ys,?_,hl,hr⟩;unfold execOp;simp only[ho,resolve,hcal,hX,Deferred.ofValue,Sem.run_bind,Sem.run_pure,Result.andThen_ok,invoke];rw[Gb hcl];simp
theorem yg{cx:Cx}{s:AS}{a:Act}{w:World}{ι:Env}(h:aR cx s a w ι){xs:Array Operand}{l:List AV}(hl:c9 s xs.toList=some l)(hp:cZ [] l=true){bb:List AV}{ys:List Value}(hc:bb.length=ys.length)
  (hr:∀(i:Nat) (c:AV) (y:Value),bb[i]?=some c→ys[i]?=some y→Rel (NN cx.M ι) w bO c y):DL (NN cx.M ι) w (l.map gm++bb) (xs.map a.eval++ys.toArray):=by
 have h1:=abG h hl hp;have hsz:=h1.1;refine⟨by simp at hsz⊢;omega,fun i v y hv hy=>?_⟩;by_cases hi:i<(l.map gm).length
 ·rw[List.getElem?_append_left hi]at hv;rw[Array.getElem?_append_left (by rw[←hsz];exact hi)]at hy;exact h1.2 i v y hv hy
 ·rw[List.getElem?_append_right (by omega)]at hv;rw[Array.getElem?_append_right (by rw[←hsz];omega)]at hy;rw[hsz]at hv;exact hr _ v y hv (by simpa using hy)
theorem Vj{cx:Cx}{Q:Exit→Act→World→Prop}{ks:List aq}{s:AS}{all:Array Oper}{o:Oper}{r:List Oper}{c:Call}{fo:Operand}{f:FuncId}{bb l:List AV}{Qf:AV→AS→Prop}
  (hc:aO cx.P f (l.map gm++bb) Qf)
  (hg:o.guard=none) (ho:o.op=.call c) (hcal:c.callee=.value fo) (hf:s.ev fo=some (.fn f bb)) (hcl:cN cx.P f=true) (hd:cB cx.n o.dst=true) (hl:c9 s c.args.toList=some l) (hp:cZ [] l=true)
  (k:∀v s1,Qf v s1→v.cJ []=true∧OT cx Q ks all r (s.put o.dst v)):OT cx Q ks all (o::r) s:=fun a w ι hs=>by
 refine wpList_plain hg fun K hK=>?_;unfold Oper.wp;obtain⟨ys,hrc,hc1,hc2⟩:=kM hs ho hcal hf hcl;rw[hrc,Oper.upon_enter];refine (hc (NN cx.M ι) w _ (fun b hb=>nL hs.hs hb) (yg hs hl hp hc1 hc2)).mono ?_
 rintro e w' ⟨x,v,s1,ι1,rfl,hq,hhs,hr⟩
 obtain⟨hpure,hk⟩:=k v s1 hq;have h3:Rel (NN cx.M ι) w' ι v x:=(hr.pure hpure ι).mono (Nat.le_refl _) (fun b _ hb=>.inl hb) (fun _ _ _=>rfl) (fun _ _ h=>h);exact hK _ _ (hk _ _ _ ((hs.jg hhs.below.plain).put (fH hd) h3))
theorem VF{cx:Cx}{Q:Exit→Act→World→Prop}{ks:List aq}{s:AS}{all:Array Oper}{o:Oper}{r:List Oper}{c:Call}{fo:Operand}{f:FuncId}{bb l args:List AV}{V:AV}
  (hc:aO cx.P f args (fun v _=>v=V))
  (hg:o.guard=none) (ho:o.op=.call c) (hcal:c.callee=.value fo) (hf:s.ev fo=some (.fn f bb)) (hcl:cN cx.P f=true) (hd:cB cx.n o.dst=true) (hl:c9 s c.args.toList=some l) (ha:l.map gm++bb=args) (hp:cZ [] l=true)
  (hv:V.cJ []=true) (k:OT cx Q ks all r (s.put o.dst V)):OT cx Q ks all (o::r) s :=
 Vj (l:=l) (ha ▸ hc) hg ho hcal hf hcl hd hl hp (fun v s1 h=>by subst h;exact⟨hv,k⟩)
end Go.Proofs.YtnpmlepplfaijaaGreat

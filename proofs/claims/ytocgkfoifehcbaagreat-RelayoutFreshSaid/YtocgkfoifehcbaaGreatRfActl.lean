/- Code on abstract states: rules for each form of code, for calls, loops, returns. No program in sight. -/
import Derived.Test.YtocgkfoifehcbaaGreatRfAop4
import Derived.LoopN
namespace Go.Proofs.YtocgkfoifehcbaaGreat
set_option linter.all false
open Go.RowKit
inductive aq where
 | c (c:Code)
 | b (id:Nat)
 | l (back:Act→World→Prop)
def Kw(P:Program)(Q:Exit→Act→World→Prop):List aq→Exit→Act→World→Prop
 | []=>Q
 | .c c::ks=>Exit.then (c.wp P (Kw P Q ks)) (Kw P Q ks)
 | .b id::ks=>Exit.inBlock id (Kw P Q ks)
 | .l back::ks=>Exit.then back (Kw P Q ks)
def VE(cx:Cx)(Q:Exit→Act→World→Prop)(ks:List aq)(e:Exit)(s:AS):Prop:=∀a w ι,aN cx s a w ι→Kw cx.P Q ks e a w
def OT(cx:Cx)(Q:Exit→Act→World→Prop)(ks:List aq)(all:Array Oper)(l:List Oper)(s:AS):Prop:=∀a w ι,aN cx s a w ι→wpList cx.P all (Kw cx.P Q ks) l a w
section
variable{cx:Cx}{Q:Exit→Act→World→Prop}{ks:List aq}{s:AS}
theorem Mh(h:VE cx Q ks .normal s):VE cx Q (.c .skip::ks) .normal s:=fun a w ι hs=>wp_skip (h a w ι hs)
theorem P2{x y:Code}(h:VE cx Q (.c x :: .c y::ks) .normal s):VE cx Q (.c (.seq x y)::ks) .normal s:=fun a w ι hs=>wp_seq (h a w ι hs)
theorem Qu{id:Nat}{c:Code}(h:VE cx Q (.c c :: .b id::ks) .normal s):VE cx Q (.c (.block id c)::ks) .normal s:=fun a w ι hs=>wp_block (h a w ι hs)
theorem K7{id:Nat}(h:VE cx Q ks .normal s):VE cx Q (.b id::ks) .normal s:=fun a w ι hs=>h a w ι hs
theorem LB{id:Nat}(h:VE cx Q ks (.exit id) s):VE cx Q (.c (.exit id)::ks) .normal s:=fun a w ι hs=>wp_exit (h a w ι hs)
theorem Ma(h:VE cx Q ks .ret s):VE cx Q (.c .ret::ks) .normal s:=fun a w ι hs=>wp_ret (h a w ι hs)
theorem Pj{id:Nat}{c:Code}(h:VE cx Q ks (.exit id) s):VE cx Q (.c c::ks) (.exit id) s:=fun a w ι hs=>h a w ι hs
theorem Rd{id:Nat}{b:Act→World→Prop}(h:VE cx Q ks (.exit id) s):VE cx Q (.l b::ks) (.exit id) s:=fun a w ι hs=>h a w ι hs
theorem Mq{id:Nat}(h:VE cx Q ks .normal s):VE cx Q (.b id::ks) (.exit id) s:=fun a w ι hs=>by
 show Exit.inBlock id _ _ _ _;simp only[Exit.inBlock,if_true];exact h a w ι hs
theorem Om{id id':Nat}(hne:¬ id=id')(h:VE cx Q ks (.exit id) s):VE cx Q (.b id'::ks) (.exit id) s:=fun a w ι hs=>by
 show Exit.inBlock id' _ _ _ _;simp only[Exit.inBlock,if_neg hne];exact h a w ι hs
theorem V6{c:Code}(h:VE cx Q ks .ret s):VE cx Q (.c c::ks) .ret s:=fun a w ι hs=>h a w ι hs
theorem Us{b:Act→World→Prop}(h:VE cx Q ks .ret s):VE cx Q (.l b::ks) .ret s:=fun a w ι hs=>h a w ι hs
theorem KF{id:Nat}(h:VE cx Q ks .ret s):VE cx Q (.b id::ks) .ret s:=fun a w ι hs=>h a w ι hs
theorem GP{c:Operand}{x y:Code}{b:Bool}(hc:s.ev c=some (.bool b))(ht:b=true→VE cx Q (.c x::ks) .normal s)(hf:b=false→VE cx Q (.c y::ks) .normal s):VE cx Q (.c (.cond c x y)::ks) .normal s:=fun a w ι hs=>by
 have h:=hs.ev hc;have hc':a.eval c=.bool b:=by cases h':a.eval c<;>rw[h']at h<;>cases h;rfl
 cases b
 ·exact wp_cond hc' (hf rfl a w ι hs)
 ·exact wp_cond hc' (ht rfl a w ι hs)
theorem Nk{c:Operand}{x y:Code}(hc:s.ev c=some (.bool true))(ht:VE cx Q (.c x::ks) .normal s):VE cx Q (.c (.cond c x y)::ks) .normal s:=GP hc (fun _=>ht) (fun h=>by cases h)
theorem NL{c:Operand}{x y:Code}(hc:s.ev c=some (.bool false))(hf:VE cx Q (.c y::ks) .normal s):VE cx Q (.c (.cond c x y)::ks) .normal s:=GP hc (fun h=>by cases h) (fun _=>hf)
theorem Ga{id:Nat}{ops:Array Oper}(h:OT cx Q ks ops ops.toList s):VE cx Q (.c (.region id ops false)::ks) .normal s:=fun a w ι hs=>wp_region_list (h a w ι hs)
theorem Gp{all:Array Oper}(h:VE cx Q ks .normal s):OT cx Q ks all [] s:=fun a w ι hs=>h a w ι hs
theorem Aa{all:Array Oper}{o:Oper}{r:List Oper}{s':AS}(hg:o.guard=none)(h:bE cx.P cx.n s o=some s')(k:OT cx Q ks all r s'):OT cx Q ks all (o::r) s:=fun a w ι hs=>by
 refine wpList_plain hg fun K hK=>?_;unfold Oper.wp;obtain⟨ι',_,hgood⟩:=JD hs h;obtain⟨x,w',hr,hs'⟩|⟨w',hr,hs'⟩:=hgood
 ·rw[hr];exact hK _ _ (k _ _ _ hs')
 ·rw[hr];exact hK _ _ (k _ _ _ hs')
theorem UQ{all:Array Oper}{o og:Oper}{r:List Oper}{j d:Nat}{b:Bool}(hg:o.guard=some (j,b))(hj:all[j]?=some og)(hd:og.dst=some d)(hv:look d s.t=some (.bool b))(k:OT cx Q ks all ({ o with guard:=none }::r) s):OT cx Q ks all (o::r) s:=fun a w ι hs=>by
 have hk:=k a w ι hs;obtain⟨x,hx,hr⟩:=hs.tmp d _ hv;cases hr;have hw:Region.wanted o (yielded all a.tmps)=true:=by simp[Region.wanted,hg,yielded,hj,hd,hx]
 have hw':Region.wanted { o with guard:=none } (yielded all a.tmps)=true:=by simp[Region.wanted]
 unfold wpList at hk⊢;rw[if_pos hw']at hk;rw[if_pos hw];exact hk
def wh(u:List Nat)(l:List (Nat×AV)):List (Nat×AV)→Prop
 | []=>True
 | (k,v)::r=>look k l=some v∧v.cL u=true∧wh u l r
def ua(u:List Nat)(l:List (Nat×List AV)):List (Nat×List AV)→Prop
 | []=>True
 | (k,v)::r=>look k l=some v∧dc u v=true∧u.contains k=true∧ua u l r
def uy(u:List Nat)(l:List (Nat×br)):List (Nat×br)→Prop
 | []=>True
 | (k,v)::r=>look k l=some v∧u.contains k=true∧uy u l r
def Sub(s' s:AS):Prop:=wh s'.u s.t s'.t∧ua s'.u s.o s'.o∧uy s'.u s.r s'.r∧∀id,s.u.contains (cJ id)=true→s'.u.contains (cJ id)=true∧s'.u.contains id=true
theorem C5{u:List Nat}{l:List (Nat×AV)}:∀{m:List (Nat×AV)},wh u l m→∀k v,look k m=some v→look k l=some v∧v.cL u=true
 | [],_,k,v,hk=>by cases hk
 | (j,x)::r,h,k,v,hk=>by
  simp only[look]at hk;split at hk
  ·rename_i e;subst e;injection hk with hk;subst hk;exact⟨h.1,h.2.1⟩
  ·exact C5 h.2.2 k v hk
theorem yW{u:List Nat}{l:List (Nat×List AV)}:∀{m:List (Nat×List AV)},ua u l m→∀k v,look k m=some v→look k l=some v∧dc u v=true∧u.contains k=true
 | [],_,k,v,hk=>by cases hk
 | (j,x)::r,h,k,v,hk=>by
  simp only[look]at hk;split at hk
  ·rename_i e;subst e;injection hk with hk;subst hk;exact⟨h.1,h.2.1,h.2.2.1⟩
  ·exact yW h.2.2.2 k v hk
theorem BL{u:List Nat}{l:List (Nat×br)}:∀{m:List (Nat×br)},uy u l m→∀k v,look k m=some v→look k l=some v∧u.contains k=true
 | [],_,k,v,hk=>by cases hk
 | (j,x)::r,h,k,v,hk=>by
  simp only[look]at hk;split at hk
  ·rename_i e;subst e;injection hk with hk;subst hk;exact⟨h.1,h.2.1⟩
  ·exact BL h.2.2 k v hk
def fW(ι:Env)(u:List Nat):Env:=fun i=>if has u i=true then ι i else none
theorem mr{ι:Env}{u:List Nat}{i:Nat}(h:has u i=true):fW ι u i=ι i:=by simp only[fW,h,if_true]
theorem Vc{ι:Env}{u:List Nat}{i:Nat}{y:Value}(h:fW ι u i=some y):ι i=some y∧has u i=true:=by
 unfold fW at h;split at h
 ·rename_i hu;exact⟨h,hu⟩
 ·cases h
theorem vE{ι:Env}{u:List Nat}{i g:Nat}(h:bn (fW ι u i)=some g):bn (ι i)=some g:=by
 unfold fW at h;split at h
 ·exact h
 ·cases h
theorem Rel.fW{N N':Nat→Prop}{w:World}{ι:Env}{v:AV}{x:Value}(h:Rel N w ι v x){u:List Nat}(hu:v.cL u=true)(hN:∀b,N' b→N b):Rel N' w (fW ι u) v x :=
 (h.env (ι':=Proofs.YtocgkfoifehcbaaGreat.fW ι u) (fun id hid=>mr (eA hid)) hu).mono (Nat.le_refl _) (fun b _ hb=>hN b hb) (fun _ _ _=>rfl) (fun _ _ h=>h)
theorem AX{M:Nat→Prop}{ι:Env}{u:List Nat}:∀b,NN M (fW ι u) b→NN M ι b:=fun b hb=>by
 rcases hb with hb|⟨id,hb⟩
 ·exact .inl hb
 ·exact .inr ⟨id,vE hb⟩
theorem HS.sub{M:Nat→Prop}{w0:aE}{w:World}{ι:Env}{s s':AS}(h:HS M w0 w ι s)(hs:Sub s' s):HS M w0 w (fW ι s'.u) s':=by
 refine⟨h.below,h.old,fun i y hy=>(Vc hy).2,fun i g hg=>h.own i g (vE hg),fun i i' g hg hg'=>h.inj i i' g (vE hg) (vE hg'),fun i cs hi=>eA (yW hs.2.1 i cs hi).2.2,fun i a hi=>eA (BL hs.2.2.1 i a hi).2,fun i cs hi hp=>?_,fun i ar hi hp=>?_,fun i y hp=>⟨(mr (eA (hs.2.2.2 i (h.pin i y hp).2).2)).trans (h.pin i y hp).1,(hs.2.2.2 i (h.pin i y hp).2).1⟩⟩
 ·obtain⟨h1,h2,h3⟩:=yW hs.2.1 i cs hi;have h3:=eA h3;rw[mr h3]at hp;obtain⟨g,T,vs,e1,e2,e3⟩:=h.objs i cs h1 hp;exact⟨g,T,vs,(mr h3).trans e1,e2,e3.len,e3.one,fun j x v hx hv=>(e3.rel j x v hx hv).fW (iS h2 j x hx) AX⟩
 ·obtain⟨h1,h3⟩:=BL hs.2.2.1 i ar hi;have h3:=eA h3;rw[mr h3]at hp;obtain⟨v,xs,e1,e2,e3,e4,e5⟩:=h.arrs i ar h1 hp;refine⟨v,xs,(mr h3).trans e1,e2,e3,e4,fun j e hj k c hk=>?_⟩;obtain⟨x,hx,hr⟩:=e5 j e hj k c hk;exact⟨x,hx,hr.mono (Nat.le_refl _) (fun b _ hb=>AX b hb) (fun _ _ _=>rfl) (fun r h'=>(mr (Lc _ _ _)).trans h') (fun _ _=>rfl) (fun h=>h)⟩
theorem aN.sub{s':AS}{a:Act}{w:World}{ι:Env}(h:aN cx s a w ι)(hs:Sub s' s):aN cx s' a w (fW ι s'.u) :=
 ⟨h.hs.sub hs,h.dfr,h.n,fun k v hk=>by
  obtain⟨h1,h2⟩:=C5 hs.1 k v hk;obtain⟨x,hx,hr⟩:=h.tmp k v h1;exact⟨x,hx,hr.fW h2 AX⟩⟩
theorem Gw{e:Exit}(s':AS)(hs:Sub s' s)(h:VE cx Q ks e s'):VE cx Q ks e s:=fun a w ι hsim=>h a w _ (hsim.sub hs)
end
def oW(N:Nat→Prop)(w:World)(args:List AV)(xs:Array Value):Prop:=args.length=xs.size∧∀(i:Nat) (v:AV) (y:Value),args[i]?=some v→xs[i]?=some y→Rel N w bm v y
def aS(P:Program)(f:FuncId)(args:List AV)(Q:AV→AS→Prop):Prop :=
 ∀(M:Nat→Prop) (w:World) (xs:Array Value),(∀b,M b→b<w.heap.size)→oW M w args xs →
  Calls P f xs w fun e w'=>∃x v s ι,e=.returned x∧Q v s∧HS M (jb w) w' ι s∧Rel (NN M ι) w' ι v x
theorem aS.mono{P:Program}{f:FuncId}{args:List AV}{Q Q':AV→AS→Prop}(h:aS P f args Q)(hq:∀v s,Q v s→Q' v s):aS P f args Q':=fun M w xs h1 h2 =>
 (h M w xs h1 h2).mono fun _ _ ⟨x,v,s,ι,e1,e2,e3,e4⟩=>⟨x,v,s,ι,e1,hq _ _ e2,e3,e4⟩
def idxs(k:Nat):List AV→List (Nat×AV)
 | []=>[]
 | v::r=>(k,v)::idxs (k+1) r
theorem pi:∀(l:List AV) (k i:Nat),look i (idxs k l)=if k≤i then l[i-k]? else none
 | [],k,i=>by simp[idxs,look]
 | v::r,k,i=>by
  simp only[idxs,look,pi r (k+1) i];by_cases h:i=k
  ·subst h;simp
  ·rw[if_neg h];by_cases h2:k+1≤i
   ·have e:i-k=(i-(k+1))+1:=by omega
    rw[if_pos h2,if_pos (by omega),e,List.getElem?_cons_succ]
   ·rw[if_neg h2,if_neg (by omega)]
def bA(M:Nat→Prop)(w:aE)(Q:AV→AS→Prop)(e:Ending)(w':World):Prop:=∃x v s ι,e=.returned x∧Q v s∧HS M w w' ι s∧Rel (NN M ι) w' ι v x
theorem O2{P:Program}{f:FuncId}{fn:Func}{c:Code}{args:List AV}{Q:AV→AS→Prop}(hf:P.funcs[f]?=some fn)(hb:fn.body=some c)(n:Nat)(hn:fn.ntmps=n)(hl:args.length≤n)
  (h:∀M w0,VE ⟨P,n,M,w0⟩ (bodyPost P fn (bA M w0 Q)) [.c c] .normal ⟨idxs 0 args,[],[],[]⟩):aS P f args Q:=by
 intro M w xs hM hx;refine calls_of_wp hf hb ?_;refine wp_mono (h M (jb w) { tmps:=xs++Array.replicate (fn.ntmps-xs.size) undef,defers:=[] } w bm ?_) (fun e a w' hq=>?_)
 ·refine⟨⟨⟨rfl,rfl,rfl,Nat.le_refl _,fun _ _ _=>rfl⟩,fun b hb=>⟨hM b hb,fun h=>h⟩,fun i y hy=>(by cases hy),fun i g hg=>(by cases hg),fun i i' g hg=>(by cases hg),fun i cs hi=>(by cases hi),fun i a hi=>(by cases hi),fun i cs hi=>(by cases hi),fun i a hi=>(by cases hi),fun i v hv=>(by cases hv)⟩,rfl,?_,fun k v hk=>?_⟩
  ·have:=hx.1;simp;omega
  ·rw[pi,if_pos (Nat.zero_le _),Nat.sub_zero]at hk;have hlt:k<xs.size:=by rw[←hx.1];exact(List.getElem?_eq_some_iff.1 hk).1
   refine⟨xs[k],?_,(hx.2 k v _ hk (Array.getElem?_eq_getElem hlt)).mono (Nat.le_refl _) (fun b _ hb=>?_) (fun _ _ _=>rfl) (fun _ _ h=>h)⟩
   ·simp only[];rw[Array.getElem?_append_left hlt,Array.getElem?_eq_getElem hlt]
   ·rcases hb with hb|⟨id,hb⟩
    ·exact hb
    ·cases hb
 ·cases e<;>exact hq
def fE(P:Program)(s:AS):List ResultVar→Option (List AV)
 | []=>some []
 | .tmp t::r=>match look t s.t,fE P s r with|some v,some l=>some (v::l)|_,_=>none
 | .cell t T::r=>match look t s.t with
  | some p=>match jo P s T p,fE P s r with|some v,some l=>some (v::l)|_,_=>none
  | none=>none
def nD:List AV→AV
 | [v]=>v
 | l=>.tup l
def tI(tmps:Array Value):ResultVar→Sem Value
 | .tmp t=>pure (tmps.getD t undef)
 | .cell a t=>do loadVar t (← asAddr (tmps.getD a undef))
theorem vm{cx:Cx}{s:AS}{a:Act}{w:World}{ι:Env}(hsim:aN cx s a w ι):∀{rs:List ResultVar} {l:List AV},fE cx.P s rs=some l →
  ∃vs:List Value,(rs.mapM (tI a.tmps)).run cx.P w=.ok vs w∧l.length=vs.length∧∀(i:Nat) (v:AV) (y:Value),l[i]?=some v→vs[i]?=some y→Rel (NN cx.M ι) w ι v y
 | [],l,h=>by injection h with h;subst h;exact⟨[],by simp,rfl,fun i v y hv _=>by simp at hv⟩
 | .tmp t::r,l,h=>by
  unfold fE at h;cases h1:look t s.t with
  | none=>rw[h1]at h;cases h
  | some v =>
   cases h2:fE cx.P s r with
   | none=>rw[h1,h2]at h;cases h
   | some l' =>
    rw[h1,h2]at h;injection h with h;subst h
    obtain⟨vs,e1,e2,e3⟩:=vm hsim h2;obtain⟨x,hx,hr⟩:=hsim.tmp t v h1;refine⟨x::vs,?_,by simp[e2],fun i v' y hv hy=>?_⟩
    ·rw[List.mapM_cons];simp[tI,e1,Array.getD_eq_getD_getElem?,hx]
    ·cases i with
     | zero=>simp at hv hy;subst hv;subst hy;exact hr
     | succ i=>exact e3 i v' y (by simpa using hv) (by simpa using hy)
 | .cell t T::r,l,h=>by
  unfold fE at h;cases h1:look t s.t with
  | none=>rw[h1]at h;cases h
  | some p =>
   simp only[h1]at h;cases h3:jo cx.P s T p with
   | none=>rw[h3]at h;cases h
   | some v =>
    cases h2:fE cx.P s r with
    | none=>rw[h3,h2]at h;cases h
    | some l' =>
     rw[h3,h2]at h;injection h with h;subst h
     obtain⟨vs,e1,e2,e3⟩:=vm hsim h2;obtain⟨x,hx,hr⟩:=hsim.tmp t p h1;unfold jo at h3;split at h3
     ·rename_i cs hm;obtain⟨b,o',vl,hx',hcells⟩:=Ef hsim hr hm;obtain⟨z,hrun,hrz⟩:=Gs h3 hcells;refine⟨z::vs,?_,by simp[e2],fun i v' y hv hy=>?_⟩
      ·rw[List.mapM_cons];have hl:(loadVar T ⟨b,o',none⟩).run cx.P w=.ok z w:=by simpa[Instr.loadAt,Instr.sureAddr]using hrun
       simp[tI,e1,Array.getD_eq_getD_getElem?,hx,hx',asAddr,hl]
      ·cases i with
       | zero=>simp at hv hy;subst hv;subst hy;exact hrz
       | succ i=>exact e3 i v' y (by simpa using hv) (by simpa using hy)
     ·cases h3
def vK:List Value→Value
 | [v]=>v
 | l=>.tuple l.toArray
theorem QJ(fn:Func)(tmps:Array Value):results fn tmps=(do let vs ← fn.results.mapM (tI tmps);pure (if h:vs.size=1 then vs[0] else .tuple vs)):=by
 unfold results;congr 1
theorem Fw{P:Program}{w:World}{fn:Func}{tmps:Array Value}{vs:List Value}(h:(fn.results.toList.mapM (tI tmps)).run P w=.ok vs w):
  (results fn tmps).run P w=.ok (vK vs) w:=by
 rw[QJ,Array.mapM_eq_mapM_toList];simp only[Sem.run_bind,Sem.run_map,h,Result.andThen_ok,Sem.run_pure];congr 1
 match vs with
 | []=>simp[vK]
 | [v]=>simp[vK]
 | v::u::r=>simp[vK]
theorem oC{cx:Cx}{fn:Func}{s:AS}{Q:AV→AS→Prop}{l:List AV}{rs:Array ResultVar}(hrs:fn.results=rs)(h:fE cx.P s rs.toList=some l)(hq:Q (nD l) s):VE cx (bodyPost cx.P fn (bA cx.M cx.w0 Q)) [] .ret s:=fun a w ι hsim=>by
 obtain⟨vs,e1,e2,e3⟩:=vm hsim h;refine⟨hsim.dfr,_,Fw (by rw[hrs];exact e1),_,nD l,s,ι,rfl,hq,hsim.hs,?_⟩
 match l,vs,e2,e3 with
 | [],[],_,e3=>exact .tup _ _ _ rfl (fun i x v hx _=>by simp at hx)
 | [v],[y],_,e3=>exact e3 0 v y rfl rfl
 | v::u::r,y::z::q,e2,e3=>exact .tup _ _ _ e2 e3
def cf (P:Program) (f:FuncId):Bool:=match P.funcs[f]? with | some fn=>!(fn.name == "runtime.NumGoroutine") && !fn.body.isNone | none=>false
theorem zY{P:Program}{w:World}{f:FuncId}(h:cf P f=true)(xs:Array Value):(callFunc f xs).run P w=.ok (.enter f xs) w:=by
 unfold cf at h;cases hf:P.funcs[f]? with
 | none=>simp[hf]at h
 | some fn =>
  simp only[hf,Bool.and_eq_true,Bool.not_eq_true',beq_eq_false_iff_ne,ne_eq]at h;unfold callFunc;simp only[Sem.run_bind,run_program,Result.andThen_ok,hf];rw[if_neg (by simpa using h.1),if_neg (by simp[h.2])];rfl
def fI:AV→AV
 | .agg cs=>.agg (cs.map fN)
 | v=>fN v
theorem vX{N:Nat→Prop}{w:World}{ι:Env}{v:AV}{x:Value}(h:Rel N w ι v x):Rel N w ι (fI v) x:=by
 cases h with
 | agg _ cs vs hl h1 hr =>
  have c:=(Cells.mk hl h1 hr:Cells N w ι cs vs).pz;exact .agg _ _ _ c.len c.one c.rel
 | nils _=>exact .sl0 _ _ _
 | _=>simp only[fI,fN];constructor<;>assumption
theorem Oe{cx:Cx}{s:AS}{a:Act}{w:World}{ι:Env}(h:aN cx s a w ι){xs:Array Operand}{l:List AV}(hl:cG s xs.toList=some l)(hp:dc [] l=true):oW (NN cx.M ι) w (l.map fI) (xs.map a.eval):=by
 obtain⟨e1,e2⟩:=jn h hl;refine⟨by simp at e1;simp[e1],fun i v y hv hy=>?_⟩;rw[List.getElem?_map]at hv;cases e:l[i]? with
 | none=>rw[e]at hv;cases hv
 | some c =>
  rw[e]at hv;injection hv with hv;subst hv
  have hy':(xs.toList.map a.eval)[i]?=some y:=by rw[←Array.toList_map];simpa using hy
  exact vX ((e2 i c y e hy').pure (iS hp i c e) bm)
theorem HS.jm{M:Nat→Prop}{w0:aE}{w w':World}{ι:Env}{s:AS}(h:HS M w0 w ι s)(hb:Below w.heap.size w w'):HS M w0 w' ι s:=by
 have bJ:∀b,b<w.heap.size→¬ NN M ι b→w'.heap[b]?=w.heap[b]?:=fun b hlt _=>hb.block b hlt;refine⟨h.below.trans (.of hb h.below.size),h.old,h.use,fun i g hg'=>⟨(h.own i g hg').1,by have:=(h.own i g hg').2;have:=hb.size;omega⟩,h.inj,h.ko,h.kr,fun i cs hi hp=>?_,fun i ar hi hp=>?_,h.pin⟩
 ·obtain⟨g,T,vs,e1,e2,e3⟩:=h.objs i cs hi hp;exact⟨g,T,vs,e1,(hb.block g (h.own i g (by rw[e1];rfl)).2).trans e2,e3.mono hb.size (fun b _ hb=>hb) bJ (fun _ _ h=>h)⟩
 ·obtain⟨v',xs,e1,e2,e3,e4,e5⟩:=h.arrs i ar hi hp;refine⟨v',xs,e1,eD e2 (fun g hg'=>hb.block g (h.own i g (by rw[e1];exact hg')).2),e3,e4,fun j e hj k' c' hk'=>?_⟩;obtain⟨y,hy,hry⟩:=e5 j e hj k' c' hk';exact⟨y,hy,hry.mono hb.size (fun b _ hb=>hb) bJ (fun _ h=>h) (fun r h'=>hb.block r (h.iK h')) (fun h=>h)⟩
theorem aN.jm{cx:Cx}{s:AS}{a:Act}{w w':World}{ι:Env}(h:aN cx s a w ι)(hb:Below w.heap.size w w'):aN cx s a w' ι :=
 h.world (h.hs.jm hb) rfl hb.size (fun b _ hb=>hb) (fun b hlt _=>hb.block b hlt) (fun _ _ h=>h)
theorem iA{cx:Cx}{s:AS}{a:Act}{w:World}{ι:Env}(hs:aN cx s a w ι){o:Oper}{c:Call}{fo:Operand}{f:FuncId}{aP:List AV}(ho:o.op=.call c)(hcal:c.callee=.value fo)(hf:s.ev fo=some (.fn f aP))(hcl:cf cx.P f=true):
  ∃ys:List Value,(execOp a.eval o).run cx.P w=.ok (.enter f (c.args.map a.eval++ys.toArray)) w∧aP.length=ys.length∧∀(i:Nat) (c:AV) (y:Value),aP[i]?=some c→ys[i]?=some y→Rel (NN cx.M ι) w bm c y:=by
 have hr:=hs.ev hf;generalize hX:a.eval fo=X at hr;cases hr with
 | fn _ _ _ ys hl hr =>
  refine⟨ys,?_,hl,hr⟩;unfold execOp;simp only[ho,resolve,hcal,hX,Deferred.ofValue,Sem.run_bind,Sem.run_pure,Result.andThen_ok,invoke];rw[zY hcl];simp
theorem tv{cx:Cx}{s:AS}{a:Act}{w:World}{ι:Env}(h:aN cx s a w ι){xs:Array Operand}{l:List AV}(hl:cG s xs.toList=some l)(hp:dc [] l=true){aP:List AV}{ys:List Value}(hc:aP.length=ys.length)
  (hr:∀(i:Nat) (c:AV) (y:Value),aP[i]?=some c→ys[i]?=some y→Rel (NN cx.M ι) w bm c y):oW (NN cx.M ι) w (l.map fI++aP) (xs.map a.eval++ys.toArray):=by
 have h1:=Oe h hl hp;have hsz:=h1.1;refine⟨by simp at hsz⊢;omega,fun i v y hv hy=>?_⟩;by_cases hi:i<(l.map fI).length
 ·rw[List.getElem?_append_left hi]at hv;rw[Array.getElem?_append_left (by rw[←hsz];exact hi)]at hy;exact h1.2 i v y hv hy
 ·rw[List.getElem?_append_right (by omega)]at hv;rw[Array.getElem?_append_right (by rw[←hsz];omega)]at hy;rw[hsz]at hv;exact hr _ v y hv (by simpa using hy)
theorem Ro{cx:Cx}{Q:Exit→Act→World→Prop}{ks:List aq}{s:AS}{all:Array Oper}{o:Oper}{r:List Oper}{c:Call}{fo:Operand}{f:FuncId}{aP l:List AV}{Qf:AV→AS→Prop}
  (hc:aS cx.P f (l.map fI++aP) Qf)
  (hg:o.guard=none) (ho:o.op=.call c) (hcal:c.callee=.value fo) (hf:s.ev fo=some (.fn f aP)) (hcl:cf cx.P f=true) (hd:cm cx.n o.dst=true) (hl:cG s c.args.toList=some l) (hp:dc [] l=true)
  (k:∀v s1,Qf v s1→v.cL []=true∧OT cx Q ks all r (s.put o.dst v)):OT cx Q ks all (o::r) s:=fun a w ι hs=>by
 refine wpList_plain hg fun K hK=>?_;unfold Oper.wp;obtain⟨ys,hrc,hc1,hc2⟩:=iA hs ho hcal hf hcl;rw[hrc,Oper.upon_enter];refine (hc (NN cx.M ι) w _ (fun b hb=>i9 hs.hs hb) (tv hs hl hp hc1 hc2)).mono ?_
 rintro e w' ⟨x,v,s1,ι1,rfl,hq,hhs,hr⟩
 obtain⟨hpure,hk⟩:=k v s1 hq;have h3:Rel (NN cx.M ι) w' ι v x:=(hr.pure hpure ι).mono (Nat.le_refl _) (fun b _ hb=>.inl hb) (fun _ _ _=>rfl) (fun _ _ h=>h);exact hK _ _ (hk _ _ _ ((hs.jm hhs.below.plain).put (eI hd) h3))
theorem QX{cx:Cx}{Q:Exit→Act→World→Prop}{ks:List aq}{s:AS}{all:Array Oper}{o:Oper}{r:List Oper}{c:Call}{fo:Operand}{f:FuncId}{aP l args:List AV}{V:AV}
  (hc:aS cx.P f args (fun v _=>v=V))
  (hg:o.guard=none) (ho:o.op=.call c) (hcal:c.callee=.value fo) (hf:s.ev fo=some (.fn f aP)) (hcl:cf cx.P f=true) (hd:cm cx.n o.dst=true) (hl:cG s c.args.toList=some l) (ha:l.map fI++aP=args) (hp:dc [] l=true)
  (hv:V.cL []=true) (k:OT cx Q ks all r (s.put o.dst V)):OT cx Q ks all (o::r) s :=
 Ro (l:=l) (ha ▸ hc) hg ho hcal hf hcl hd hl hp (fun v s1 h=>by subst h;exact⟨hv,k⟩)
end Go.Proofs.YtocgkfoifehcbaaGreat

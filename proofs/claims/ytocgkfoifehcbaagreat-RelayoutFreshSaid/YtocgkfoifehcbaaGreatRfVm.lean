/- Batches of steps on abstract states by computation; loops by fuel; rules for lists of structs. No program in sight. -/
import Derived.Test.YtocgkfoifehcbaaGreatRfAdrw
import Derived.Test.YtocgkfoifehcbaaGreatRfCut
import Derived.Test.YtocgkfoifehcbaaGreatRfOwn
namespace Go.Proofs.YtocgkfoifehcbaaGreat
set_option linter.all false
open Go.RowKit
def mO:Code→List Nat→Code
 | c,[]=>c
 | .seq a _,0::p=>mO a p
 | .seq _ b,_::p=>mO b p
 | .cond _ a _,0::p=>mO a p
 | .cond _ _ b,_::p=>mO b p
 | .block _ c,_::p=>mO c p
 | .loop c,_::p=>mO c p
 | c,_::_=>c
def cat(f:Func)(p:List Nat):Code:=match f.body with|some c=>mO c p|none=>.skip
def opsOf:Code→Array Oper
 | .region _ ops _=>ops
 | _ => #[]
def cC(f:Func)(p:List Nat):Array Oper:=opsOf (cat f p)
def aQ(f:Func)(p:List Nat)(k:Nat):Oper:=((cC f p).toList.drop k).headD default
def aK(f:Func)(p:List Nat)(k:Nat):List Oper:=(cC f p).toList.drop k
def nL(all:Array Oper)(s:AS)(j:Nat):Option Bool :=
 match all.toList[j]? with
 | some og=>match og.dst with
  | some d=>match look d s.t with
   | some (.bool v)=>some v
   | _=>none
  | none=>none
 | none=>none
def pT(n:Nat)(s:AS)(o:Oper):Option AS:=match cm n o.dst with|true=>some (s.put o.dst (.tup []))|false=>none
def wU(all:Array Oper)(s:AS)(j:Nat):Bool :=
 match all.toList[j]? with
 | some og=>match og.dst with
  | some d=>match look d s.t with
   | some (.tup [])=>true
   | _=>false
  | none=>false
 | none=>false
theorem CB{all:Array Oper}{s:AS}{j:Nat}(h:wU all s j=true):∃og d,all.toList[j]?=some og∧og.dst=some d∧look d s.t=some (.tup []):=by
 unfold wU at h;split at h
 ·rename_i og hog;split at h
  ·rename_i d hd;split at h
   ·rename_i hv;exact⟨og,d,hog,hd,hv⟩
   ·cases h
  ·cases h
 ·cases h
def i0(P:Program)(n:Nat)(all:Array Oper)(s:AS)(o:Oper):Option AS :=
 match o.guard with
 | none=>bE P n s o
 | some (j,b)=>match nL all s j with
  | some true=>match b with|true=>bE P n s { o with guard:=none }|false=>pT n s o
  | some false=>match b with|false=>bE P n s { o with guard:=none }|true=>pT n s o
  | none=>match wU all s j with|true=>pT n s o|false=>none
def kQ(P:Program)(n:Nat)(all:Array Oper):Nat→List Oper→AS→Option (List Oper×AS)
 | 0,l,s=>some (l,s)
 | _+1,[],s=>some ([],s)
 | k+1,o::r,s=>match i0 P n all s o with
  | some s'=>kQ P n all k r s'
  | none=>none
theorem jV{all:Array Oper}{s:AS}{j:Nat}{v:Bool}(h:nL all s j=some v):∃og d,all.toList[j]?=some og∧og.dst=some d∧look d s.t=some (.bool v):=by
 unfold nL at h;split at h
 ·rename_i og hog;split at h
  ·rename_i d hd;split at h
   ·rename_i v' hv;injection h with h;subst h;exact⟨og,d,hog,hd,hv⟩
   ·cases h
  ·cases h
 ·cases h
section
variable{cx:Cx}{Q:Exit→Act→World→Prop}{ks:List aq}{s:AS}
theorem z0{all:Array Oper}{o og:Oper}{r:List Oper}{s':AS}{j d:Nat}{b:Bool}{v:AV}(hg:o.guard=some (j,b))(hj:all.toList[j]?=some og)(hd:og.dst=some d)(hv:look d s.t=some v)(hvb:v=.bool (!b)∨v=.tup [])(ho:pT cx.n s o=some s')(k:OT cx Q ks all r s'):OT cx Q ks all (o::r) s:=fun a w ι hs=>by
 obtain⟨x,hx,hr⟩:=hs.tmp d _ hv;have hj':all[j]?=some og:=by simpa using hj
 have hw:¬ Region.wanted o (yielded all a.tmps)=true:=by
  rcases hvb with rfl|rfl<;>cases hr<;>cases b<;>simp[Region.wanted,hg,yielded,hj',hd,hx]
 unfold wpList;rw[if_neg hw];unfold pT at ho;split at ho
 ·rename_i hdok;injection ho with ho;subst ho
  exact k _ _ _ (hs.put (eN hdok) (.tup _ _ [] rfl (fun i x v hx _=>by simp at hx)))
 ·cases ho
theorem EU{all:Array Oper}{o:Oper}{r:List Oper}{s':AS}(h:i0 cx.P cx.n all s o=some s')(k:OT cx Q ks all r s'):OT cx Q ks all (o::r) s:=by
 unfold i0 at h;split at h
 ·rename_i hg;exact BL hg h k
 ·rename_i j b hg;split at h
  ·rename_i hv;obtain⟨og,d,h1,h2,h3⟩:=jV hv;cases b with
   | true=>exact oW hg h1 h2 h3 (BL rfl h k)
   | false=>exact z0 hg h1 h2 h3 (.inl rfl) h k
  ·rename_i hv;obtain⟨og,d,h1,h2,h3⟩:=jV hv;cases b with
   | false=>exact oW hg h1 h2 h3 (BL rfl h k)
   | true=>exact z0 hg h1 h2 h3 (.inl rfl) h k
  ·split at h
   ·rename_i hu;obtain⟨og,d,h1,h2,h3⟩:=CB hu;exact z0 hg h1 h2 h3 (.inr rfl) h k
   ·cases h
theorem tL{all:Array Oper}:∀(k:Nat) (l:List Oper) (s:AS) {l':List Oper} {s':AS},kQ cx.P cx.n all k l s=some (l',s')→OT cx Q ks all l' s'→OT cx Q ks all l s
 | 0,l,s,l',s',h,hk=>by simp only[kQ,Option.some.injEq,Prod.mk.injEq]at h;rw[h.1,h.2];exact hk
 | k+1,[],s,l',s',h,hk=>by simp only[kQ,Option.some.injEq,Prod.mk.injEq]at h;rw[h.1,h.2];exact hk
 | k+1,o::r,s,l',s',h,hk=>by
  unfold kQ at h;split at h
  ·rename_i s1 h1;exact EU h1 (tL k r s1 h hk)
  ·cases h
theorem N1{all:Array Oper}{l r:List Oper}{s':AS}(o:Oper)(hl:l=o::r)(h:i0 cx.P cx.n all s o=some s')(k:OT cx Q ks all r s'):OT cx Q ks all l s:=hl ▸ EU h k
end
theorem KK{P:Program}{n:Nat}{all:Array Oper}{s s':AS}{o:Oper}(hg:o.guard=none)(h:bE P n s o=some s'):i0 P n all s o=some s':=by
 unfold i0;rw[hg];exact h
theorem Sv{P:Program}{n:Nat}{all:Array Oper}{s s':AS}{o:Oper}{j:Nat}{b:Bool}(hg:o.guard=some (j,b))(hv:nL all s j=some b)(h:bE P n s { o with guard:=none }=some s'):i0 P n all s o=some s':=by
 unfold i0;rw[hg];simp only[hv];cases b<;>exact h
def cd(all:Array Oper)(s:AS)(o:Oper):Bool:=match o.guard with
 | none=>true
 | some (j,b)=>match nL all s j with
  | some v=>(match v,b with|true,true=>true|false,false=>true|_,_=>false)
  | none=>false
theorem M1{P:Program}{n:Nat}{all:Array Oper}{s s':AS}{o:Oper}(hg:cd all s o=true)(h:bE P n s o=some s'):i0 P n all s o=some s':=by
 unfold cd at hg;split at hg
 ·rename_i h0;exact KK h0 h
 ·rename_i j b h0;split at hg
  ·rename_i v hv;refine Sv h0 (b:=b) ?_ h;rw[hv];cases v<;>cases b<;>simp at hg⊢
  ·cases hg
def xP(P:Program)(n:Nat):List aq→Exit→AS→Option (List aq×Exit×AS)
 | .c .skip::ks,.normal,s=>some (ks,.normal,s)
 | .c (.seq x y)::ks,.normal,s=>some (.c x :: .c y::ks,.normal,s)
 | .c (.block id c)::ks,.normal,s=>some (.c c :: .b id::ks,.normal,s)
 | .b _::ks,.normal,s=>some (ks,.normal,s)
 | .c (.exit id)::ks,.normal,s=>some (ks,.exit id,s)
 | .c .ret::ks,.normal,s=>some (ks,.ret,s)
 | .c (.cond c x y)::ks,.normal,s=>match s.ev c with
  | some (.bool true)=>some (.c x::ks,.normal,s)
  | some (.bool false)=>some (.c y::ks,.normal,s)
  | _=>none
 | .c (.region _ ops false)::ks,.normal,s=>match kQ P n ops 10000 ops.toList s with
  | some ([],s')=>some (ks,.normal,s')
  | _=>none
 | .c _::ks,.exit id,s=>some (ks,.exit id,s)
 | .l _::ks,.exit id,s=>some (ks,.exit id,s)
 | .b id'::ks,.exit id,s=>match Nat.beq id id' with
  | true=>some (ks,.normal,s)
  | false=>some (ks,.exit id,s)
 | .c _::ks,.ret,s=>some (ks,.ret,s)
 | .l _::ks,.ret,s=>some (ks,.ret,s)
 | .b _::ks,.ret,s=>some (ks,.ret,s)
 | _,_,_=>none
def mU(P:Program)(n:Nat):Nat→List aq→Exit→AS→Option (List aq×Exit×AS)
 | 0,ks,e,s=>some (ks,e,s)
 | k+1,ks,e,s=>match xP P n ks e s with
  | some (ks',e',s')=>mU P n k ks' e' s'
  | none=>none
theorem Q3{cx:Cx}{Q:Exit→Act→World→Prop}{ks:List aq}{e:Exit}{s:AS}{ks':List aq}{e':Exit}{s':AS}(h:xP cx.P cx.n ks e s=some (ks',e',s'))(hk:VE cx Q ks' e' s'):VE cx Q ks e s:=by
 unfold xP at h;split at h
 case h_7 =>
  split at h
  ·rename_i hc;simp only[Option.some.injEq,Prod.mk.injEq]at h;obtain⟨rfl,rfl,rfl⟩:=h;exact Ph hc hk
  ·rename_i hc;simp only[Option.some.injEq,Prod.mk.injEq]at h;obtain⟨rfl,rfl,rfl⟩:=h;exact OL hc hk
  ·cases h
 case h_8 =>
  split at h
  ·rename_i hr;simp only[Option.some.injEq,Prod.mk.injEq]at h;obtain⟨rfl,rfl,rfl⟩:=h;exact FM (tL _ _ _ hr (DA hk))
  ·cases h
 case h_11 =>
  split at h
  ·rename_i hb;have:=Nat.eq_of_beq_eq_true hb;simp only[Option.some.injEq,Prod.mk.injEq]at h;obtain⟨rfl,rfl,rfl⟩:=h;subst this;exact Om hk
  ·rename_i hb;simp only[Option.some.injEq,Prod.mk.injEq]at h;obtain⟨rfl,rfl,rfl⟩:=h;exact PD (fun e=>by subst e;rw[Nat.beq_refl]at hb;cases hb) hk
 all_goals (first|(simp only[Option.some.injEq,Prod.mk.injEq]at h;obtain⟨rfl,rfl,rfl⟩:=h;first|exact Ma hk|exact Sd hk|exact Uf hk|exact R5 hk|exact MZ hk|exact Ln hk|exact R9 hk|exact VS hk|exact Md hk|exact RZ hk|exact LF hk)|cases h)
theorem Cm{cx:Cx}{Q:Exit→Act→World→Prop}:∀(k:Nat) (ks:List aq) (e:Exit) (s:AS) {ks':List aq} {e':Exit} {s':AS},mU cx.P cx.n k ks e s=some (ks',e',s')→VE cx Q ks' e' s'→VE cx Q ks e s:=by
 intro k
 induction k with
 | zero =>
  intro ks e s ks' e' s' h hk;simp only[mU,Option.some.injEq,Prod.mk.injEq]at h;obtain⟨rfl,rfl,rfl⟩:=h;exact hk
 | succ k ih =>
  intro ks e s ks' e' s' h hk;unfold mU at h;split at h
  ·rename_i h1;exact Q3 h1 (ih _ _ _ h hk)
  ·cases h
def iB{α:Type}(l:List (Nat×α)):List Nat→Option (List (Nat×α))
 | []=>some []
 | k::r=>match look k l,iB l r with|some v,some m=>some ((k,v)::m)|_,_=>none
def wk(u:List Nat):List (Nat×AV)→Bool
 | []=>true
 | (_,v)::r=>v.cL u&&wk u r
def wc(u:List Nat):List (Nat×List AV)→Bool
 | []=>true
 | (k,v)::r=>db u v&&u.contains k&&wc u r
def wh(u:List Nat):List (Nat×br)→Bool
 | []=>true
 | (k,_)::r=>u.contains k&&wh u r
def pins:List Nat→List Nat
 | []=>[]
 | k::r=>match Nat.ble 1000000 k with
  | true=>k::(k-1000000)::pins r
  | false=>pins r
theorem HP:∀{u:List Nat} {id:Nat},u.contains (cK id)=true→(pins u).contains (cK id)=true∧(pins u).contains id=true
 | [],_,h=>by cases h
 | k::r,id,h=>by
  simp only[List.contains_cons,Bool.or_eq_true,beq_iff_eq]at h;unfold pins;rcases h with h|h
  ·subst h;have:Nat.ble 1000000 (cK id)=true:=by unfold cK;simp
   rw[this];simp[cK]
  ·have ih:=HP h;split
   ·simp only[List.contains_cons,ih.1,ih.2,Bool.or_true,and_self]
   ·exact ih
def oN:List (Nat×AV)→List Nat
 | []=>[]
 | (_,.sit id _ _ _)::r=>id::oN r
 | _::r=>oN r
def AS.pick(s:AS)(ts os rs:List Nat):Option AS :=
 match iB s.t ts,iB s.o os,iB s.r rs with
 | some t,some o,some r=>if (wk (os++rs++(oN t++pins s.u)) t&&wc (os++rs++(oN t++pins s.u)) o&&wh (os++rs++(oN t++pins s.u)) r)=true then some ⟨t,o,r,os++rs++(oN t++pins s.u)⟩ else none
 | _,_,_=>none
theorem Ko{u:List Nat}{l:List (Nat×AV)}:∀{ks:List Nat} {m:List (Nat×AV)},iB l ks=some m→wk u m=true→uw u l m
 | [],m,h,_=>by injection h with h;subst h;trivial
 | k::r,m,h,hu=>by
  unfold iB at h;split at h
  ·rename_i v m' h1 h2;injection h with h;subst h
   simp only[wk,Bool.and_eq_true]at hu;exact⟨h1,hu.1,Ko h2 hu.2⟩
  ·cases h
theorem Iw{u:List Nat}{l:List (Nat×List AV)}:∀{ks:List Nat} {m:List (Nat×List AV)},iB l ks=some m→wc u m=true→wM u l m
 | [],m,h,_=>by injection h with h;subst h;trivial
 | k::r,m,h,hu=>by
  unfold iB at h;split at h
  ·rename_i v m' h1 h2;injection h with h;subst h
   simp only[wc,Bool.and_eq_true]at hu;exact⟨h1,hu.1.1,hu.1.2,Iw h2 hu.2⟩
  ·cases h
theorem Fm{u:List Nat}{l:List (Nat×br)}:∀{ks:List Nat} {m:List (Nat×br)},iB l ks=some m→wh u m=true→xb u l m
 | [],m,h,_=>by injection h with h;subst h;trivial
 | k::r,m,h,hu=>by
  unfold iB at h;split at h
  ·rename_i v m' h1 h2;injection h with h;subst h
   simp only[wh,Bool.and_eq_true]at hu;exact⟨h1,hu.1,Fm h2 hu.2⟩
  ·cases h
theorem DY{s s':AS}{ts os rs:List Nat}(h:s.pick ts os rs=some s'):Sub s' s:=by
 unfold AS.pick at h;split at h
 ·rename_i t o r h1 h2 h3;split at h
  ·rename_i hu;injection h with h;subst h
   simp only[Bool.and_eq_true]at hu;refine⟨Ko h1 hu.1.1,Iw h2 hu.1.2,Fm h3 hu.2,fun id hid=>?_⟩;have:=HP hid;simp only[List.contains_eq_mem,decide_eq_true_eq]at this⊢;exact⟨List.mem_append_right _ (List.mem_append_right _ this.1),List.mem_append_right _ (List.mem_append_right _ this.2)⟩
  ·cases h
 ·cases h
section
variable{cx:Cx}{Q:Exit→Act→World→Prop}{ks:List aq}{s:AS}
def we(P:Program)(n k:Nat)(ts os rs:List Nat)(ks:List aq)(e:Exit)(s:AS):Option (List aq×Exit×AS) :=
 match mU P n k ks e s with
 | some (ks',e',s')=>match s'.pick ts os rs with|some s''=>some (ks',e',s'')|none=>none
 | none=>none
theorem Hm{e e':Exit}{ks':List aq}{s':AS}(k:Nat)(ts os rs:List Nat)(h:we cx.P cx.n k ts os rs ks e s=some (ks',e',s'))(hk:VE cx Q ks' e' s'):VE cx Q ks e s:=by
 unfold we at h;split at h
 ·rename_i k1 e1 s1 h1;split at h
  ·rename_i s2 h2;simp only[Option.some.injEq,Prod.mk.injEq]at h;obtain⟨rfl,rfl,rfl⟩:=h;exact Cm _ _ _ _ h1 (FQ _ (DY h2) hk)
  ·cases h
 ·cases h
theorem aN.Ir{a:Act}{w:World}{ι:Env}(h:aN cx s a w ι){k:Nat}{v v':AV}(hv:look k s.t=some v)(he:v=v'):aN cx { s with t:=aZ k v' s.t } a w ι:=by
 subst he;refine⟨⟨h.hs.below,h.hs.old,h.hs.use,h.hs.own,h.hs.inj,h.hs.ko,h.hs.kr,h.hs.objs,h.hs.arrs,h.hs.pin⟩,h.dfr,h.n,fun j y hj=>?_⟩;simp only[ca]at hj;by_cases e:j=k
 ·subst e;rw[if_pos rfl]at hj;injection hj with hj;subst hj;exact h.tmp j v hv
 ·rw[if_neg e]at hj;exact h.tmp j y hj
theorem QC{e:Exit}(k:Nat){v v':AV}{t':List (Nat×AV)}(hv:look k s.t=some v)(he:v=v')(ht:aZ k v' s.t=t')(h:VE cx Q ks e { s with t:=t' }):VE cx Q ks e s:=fun a w ι hs=>h a w ι (ht ▸ hs.Ir hv he)
theorem Bl{all:Array Oper}{l:List Oper}(k:Nat){v v':AV}{t':List (Nat×AV)}(hv:look k s.t=some v)(he:v=v')(ht:aZ k v' s.t=t')(h:OT cx Q ks all l { s with t:=t' }):OT cx Q ks all l s:=fun a w ι hs=>h a w ι (ht ▸ hs.Ir hv he)
theorem NV{e:Exit}{s':AS}(hs:s=s')(h:VE cx Q ks e s'):VE cx Q ks e s:=hs ▸ h
def LP(cx:Cx)(Q:Exit→Act→World→Prop)(ks:List aq)(c:Code)(m:Nat)(s:AS):Prop:=∀a w ι,aN cx s a w ι→Code.rounds cx.P c (Kw cx.P Q ks) m a w
abbrev kl(cx:Cx)(Q:Exit→Act→World→Prop)(ks:List aq)(c:Code)(m:Nat):aq:=.l (Code.rounds cx.P c (Kw cx.P Q ks) m)
theorem s5{c c':Code}(m:Nat)(hc:c'=.loop c)(h:LP cx Q ks c m s):VE cx Q (.c c'::ks) .normal s:=by
 subst hc;exact fun a w ι hs=>wp_loop_rounds m (h a w ι hs)
theorem bB{c:Code}{m:Nat}(h:VE cx Q (.c c::kl cx Q ks c m::ks) .normal s):LP cx Q ks c (m+1) s:=fun a w ι hs=>h a w ι hs
theorem bz{c:Code}{m:Nat}(h:LP cx Q ks c m s):VE cx Q (kl cx Q ks c m::ks) .normal s:=fun a w ι hs=>h a w ι hs
end
theorem ak{α:Type}{c:Bool}{x y:Option α}{r:α}(h:(if c=true then x else y)=some r):(c=true∧x=some r)∨(c=false∧y=some r):=by
 cases c
 ·exact .inr ⟨rfl,by simpa using h⟩
 ·exact .inl ⟨rfl,by simpa using h⟩
def aH{α:Type}(c:Bool)(x:Option α):Option α:=match c with|true=>x|false=>none
theorem aF{α:Type}{c:Bool}{x:Option α}{r:α}(h:aH c x=some r):c=true∧x=some r:=by
 cases c
 ·cases h
 ·exact⟨rfl,h⟩
theorem bind_some{α β:Type}{x:Option α}{k:α→Option β}{r:β}(h:x.bind k=some r):∃y,x=some y∧k y=some r:=by
 cases x with
 | none=>cases h
 | some y=>exact⟨y,rfl,h⟩
def ab(n:Int):Int:=IntKind.wrap .i64 n
theorem xt{α β:Type}(f:α→β)(L:List α)(d:α){j:Nat}(h:j<L.length):(L.map f)[j]?=some (f (L.getD j d)):=by
 rw[List.getElem?_map,List.getElem?_eq_getElem h];simp[List.getD_eq_getElem?_getD,List.getElem?_eq_getElem h]
def aX(i:Int)(n:Nat):Bool:=decide (0≤i)&&decide (i<n)
theorem cE{i:Int}{n:Nat}(h:aX i n=true):0≤i∧i.toNat<n:=by
 simp only[aX,Bool.and_eq_true,decide_eq_true_eq]at h;omega
section
variable{P:Program}{n:Nat}{s:AS}{o:Oper}{α:Type}[Inhabited α]
theorem Sp(enc exp:α→List AV)(L:List α)(i:Int)(T:TypeId)(x y:Operand)(d:Nat){sz:Nat}{e:TypeId}{kd:IntKind}(hop:o.op=.indexAddr T x y)(hd:o.dst=some d)(hn:Nat.ble (d+1) n=true)(hx:s.ev x=some (.sl (L.map enc)))(hy:s.ev y=some (.int kd i))
  (ha:ke P T=none) (ht:eI P T=some (e,sz)) (hb:aX i L.length=true) (hz:∀a,(enc a).length=sz) (he:∀a,enc a=exp a):bE P n s o=some (s.put (some d) (.cptr (exp (L.getD i.toNat default)))):=by
 obtain⟨h0,h1⟩:=cE hb;have hdn:d<n:=Nat.le_of_ble_eq_true hn;unfold bE;rw[if_pos (by rw[hd];simpa[cm]using hdn)];simp only[hop,hx,hy,nV,tB,if_pos h0,ha,ht,xt enc L default h1,hd,if_pos (hz _)];rw[he]
theorem Rg(enc:α→List AV)(L:List α)(T:TypeId)(x:Operand)(d:Nat){e:TypeId×Nat}(hop:o.op=.call ⟨.builtin .len,#[x],#[T]⟩)(hd:o.dst=some d)(hn:Nat.ble (d+1) n=true)(hx:s.ev x=some (.sl (L.map enc)))
  (ht:eI P T=some e):bE P n s o=some (s.put (some d) (.int .i64 L.length)):=by
 have hdn:d<n:=Nat.le_of_ble_eq_true hn;unfold bE;rw[if_pos (by rw[hd];simpa[cm]using hdn)];simp only[hop,kU,hx,tK,ht,List.length_map,hd]
theorem Td(enc:α→List AV)(L:List α)(T:TypeId)(x:Operand)(d:Nat){id sz:Nat}{e:TypeId×Nat}{et:TypeId}(hop:o.op=.call ⟨.builtin .len,#[x],#[T]⟩)(hd:o.dst=some d)(hn:Nat.ble (d+1) n=true)(hx:s.ev x=some (.ref id))(hr:look id s.r=some ⟨et,sz,L.map enc⟩)
  (ht:eI P T=some e):bE P n s o=some (s.put (some d) (.int .i64 L.length)):=by
 have hdn:d<n:=Nat.le_of_ble_eq_true hn;unfold bE;rw[if_pos (by rw[hd];simpa[cm]using hdn)];simp only[hop,kU,hx,tK,ht,hr,List.length_map,hd]
theorem Lh(enc:α→List AV)(L:List α)(i:Int)(T:TypeId)(x y:Operand)(d:Nat){id sz:Nat}{e et:TypeId}{kd:IntKind}(hop:o.op=.indexAddr T x y)(hd:o.dst=some d)(hn:Nat.ble (d+1) n=true)(hx:s.ev x=some (.ref id))(hy:s.ev y=some (.int kd i))
  (hr:look id s.r=some ⟨et,sz,L.map enc⟩) (ha:ke P T=none) (ht:eI P T=some (e,sz)) (hb:aX i L.length=true):bE P n s o=some (s.put (some d) (.eptr id sz i.toNat 0)):=by
 obtain⟨h0,h1⟩:=cE hb;have hdn:d<n:=Nat.le_of_ble_eq_true hn;unfold bE;rw[if_pos (by rw[hd];simpa[cm]using hdn)];simp only[hop,hx,hy,nV,tB,if_pos h0,ha,ht,hr,hd,List.length_map,h1,and_self,if_true]
theorem TY(enc exp:α→List AV)(L:List α)(T:TypeId)(x:Operand)(d:Nat){id sz j off:Nat}{et:TypeId}{v:AV}(htg:id<TG)(hop:o.op=.load T x)(hd:o.dst=some d)(hn:Nat.ble (d+1) n=true)(hx:s.ev x=some (.eptr id sz j off))
  (hr:look id s.r=some ⟨et,sz,L.map enc⟩) (hj:j<L.length) (he:∀a,enc a=exp a) (hv:fy P T ((exp (L.getD j default)).drop off)=some v):bE P n s o=some (s.put (some d) v):=by
 have hdn:d<n:=Nat.le_of_ble_eq_true hn;rw[←he]at hv;unfold bE;rw[if_pos (by rw[hd];simpa[cm]using hdn)];simp only[htg,hop,hx,jr,AS.mem,hr,if_true,xt enc L default hj,hd,hv]
theorem RY(enc exp:α→List AV)(L:List α)(new:α)(T:TypeId)(x y:Operand){id sz j off:Nat}{et:TypeId}{v:AV}{nv:List AV}(hop:o.op=.store T x y)(hd:o.dst=none)(hx:s.ev x=some (.eptr id sz j off))(hy:s.ev y=some v)
  (hr:look id s.r=some ⟨et,sz,L.map enc⟩) (hj:j<L.length) (hv:gu v=some nv) (hz:bU P T=some nv.length) (he:∀a,enc a=exp a) (hl:Nat.ble (off+nv.length) (exp (L.getD j default)).length=true) (hu:db [] nv=true) (hs:fW off nv (exp (L.getD j default))=exp new) :
  bE P n s o=some { s with r:=aZ id ⟨et,sz,(L.set j new).map enc⟩ s.r }:=by
 have hl':=Nat.le_of_ble_eq_true hl;rw[←he]at hl' hs;rw[←he]at hs;unfold bE;rw[if_pos (by rw[hd];rfl)];simp only[hop,hd,hx,hy,lY,hr,hv,xt enc L default hj,hz,hl',hu,and_self,if_true,hs,List.map_set]
def fits(n bytes:Nat):Bool:=decide (n≤maxLen)&&decide (n*bytes≤140737488355328)
theorem TC{n b:Nat}(h:fits n b=true):n≤maxLen∧n*b≤140737488355328:=by simpa[fits]using h
theorem II(enc:α→List AV)(M:List α){sz:Nat}(hz:∀a,(enc a).length=sz):(M.map enc).all (fun e=>e.length == sz)=true:=by
 simp[List.all_eq_true,hz]
theorem Nk(enc:α→List AV)(L M:List α)(T:TypeId)(x y:Operand)(d:Nat){id sz bytes:Nat}{et:TypeId}{new:List (List AV)}{t':List (Nat×AV)}{o':List (Nat×List AV)}(hop:o.op=.call ⟨.builtin .append,#[x,y],#[T,T]⟩)(hd:o.dst=some d)(hn:Nat.ble (d+1) n=true)
  (hx:s.ev x=some (.ref id)) (hy:s.ev y=some (.sl new)) (hnew:new=M.map enc) (hr:look id s.r=some ⟨et,sz,L.map enc⟩) (ht:gZ P T=some (et,sz,bytes)) (hz:∀a,(enc a).length=sz) (hf:fits (L.length+M.length) bytes=true) (hnp:s.u.contains (cK id)=false)
  (h1:cQ id s.t=t') (h2:dJ id s.o=o'):bE P n s o=some { t:=aZ d (.ref id) t',o:=o',r:=aZ id ⟨et,sz,(L++M).map enc⟩ s.r,u:=s.u }:=by
 have hdn:d<n:=Nat.le_of_ble_eq_true hn;obtain⟨f1,f2⟩:=TC hf;subst hnew;unfold bE;rw[if_pos (by rw[hd];simpa[cm]using hdn)];simp only[hop,hd,hx,hy,if_true,qD,ht,j6,II enc M hz,hr,hnp,List.length_map,f1,f2,and_self,h1,h2,List.map_append]
theorem LK(T T':TypeId)(x y:Operand)(d:Nat){k:IntKind}{a b:Int}(hop:o.op=.binOp .rem T x y T')(hd:o.dst=some d)(hn:Nat.ble (d+1) n=true)(hx:s.ev x=some (.int k a))(hy:s.ev y=some (.int k b))(hb:(b != 0)=true):bE P n s o=some (s.put (some d) (.int k (a.tmod b))):=by
 have hdn:d<n:=Nat.le_of_ble_eq_true hn;have hb':¬ b=0:=by simpa using hb
 unfold bE;rw[if_pos (by rw[hd];simpa[cm]using hdn)];simp only[hop,hx,hy,tJ,hb',and_self,if_true,hd,not_false_eq_true]
theorem Up(T T':TypeId)(x y:Operand)(d:Nat){a b:ByteArray}(hop:o.op=.binOp .add T x y T')(hd:o.dst=some d)(hn:Nat.ble (d+1) n=true)(hx:s.ev x=some (.str a))(hy:s.ev y=some (.str b))(hb:pQ a b=true):bE P n s o=some (s.put (some d) (.str (a++b))):=by
 have hdn:d<n:=Nat.le_of_ble_eq_true hn;unfold bE;rw[if_pos (by rw[hd];simpa[cm]using hdn)];simp only[hop,hx,hy,tJ,hI,xv,hb,if_true,hd]
def cH(a b:Int)(n:Nat):Bool:=decide (0≤a)&&(decide (a≤b)&&decide (b≤n))
theorem gW(enc:α→List AV)(L:List α)(a b:Int)(T:TypeId)(x:Operand)(lo hi:Option Operand)(d:Nat){e:TypeId}{sz:Nat}(hop:o.op=.slice T x lo hi none)(hd:o.dst=some d)(hn:Nat.ble (d+1) n=true)(hx:s.ev x=some (.sl (L.map enc)))
  (hu:P.underlying T=some (.slice e)) (hz:bU P e=some sz) (hlen:∀c,(enc c).length=sz) (hb:∀k,k=L.length→gO s k lo hi=some (a,b)) (hc:cH a b L.length=true):bE P n s o=some (s.put (some d) (.sl ((List.drop a.toNat (List.take b.toNat L)).map enc))):=by
 have hdn:d<n:=Nat.le_of_ble_eq_true hn;simp only[cH,Bool.and_eq_true,decide_eq_true_eq]at hc;unfold bE;rw[if_pos (by rw[hd];simpa[cm]using hdn)];simp only[hop,hI,hx,hu,hz,II enc L hlen,if_true,gw,List.length_map,hb L.length rfl,hc.1,hc.2.1,hc.2.2,and_self,hd];rw[List.map_drop,List.map_take]
end
theorem Hn{P:Program}{n:Nat}{s:AS}{o:Oper}{α:Type}(enc:α→List AV)(L:List α)(a b:Int)(T:TypeId)(x:Operand)(lo hi:Option Operand)(d:Nat){id e sz:Nat}{et:TypeId}(hop:o.op=.slice T x lo hi none)(hd:o.dst=some d)(hn:Nat.ble (d+1) n=true)(hx:s.ev x=some (.ref id))
  (hr:look id s.r=some ⟨et,sz,L.map enc⟩) (hu:P.underlying T=some (.slice e)) (hz:bU P e=some sz) (hb:∀k,k=L.length→gO s k lo hi=some (a,b)) (hc:cH a b L.length=true):bE P n s o=some (s.put (some d) (.sref id sz a.toNat (b.toNat-a.toNat))):=by
 have hdn:d<n:=Nat.le_of_ble_eq_true hn;simp only[cH,Bool.and_eq_true,decide_eq_true_eq]at hc;unfold bE;rw[if_pos (by rw[hd];simpa[cm]using hdn)];simp only[hop,hI,hx,hu,hz,hr,if_true,gw,List.length_map,hb L.length rfl,hc.1,hc.2.1,hc.2.2,and_self,hd]
section
variable{cx:Cx}{Q:Exit→Act→World→Prop}{ks:List aq}{s:AS}
theorem QD{e:Exit}(k:Nat){b b':Bool}(he:b=b')(hv:look k s.t=some (.bool b))(h:VE cx Q ks e { s with t:=aZ k (.bool b') s.t }):VE cx Q ks e s:=QC k hv (congrArg AV.bool he) rfl h
theorem OH{all:Array Oper}{l:List Oper}(k:Nat){b b':Bool}(he:b=b')(hv:look k s.t=some (.bool b))(h:OT cx Q ks all l { s with t:=aZ k (.bool b') s.t }):OT cx Q ks all l s:=Bl k hv (congrArg AV.bool he) rfl h
theorem aN.Mg{a:Act}{w:World}{ι:Env}(h:aN cx s a w ι){k:Nat}{cs:List AV}(hv:look k s.o=some cs):aN cx { s with o:=aZ k (cs.map fK) s.o } a w ι:=by
 refine⟨⟨h.hs.below,h.hs.old,h.hs.use,h.hs.own,h.hs.inj,fun i ds hi=>?_,h.hs.kr,fun i ds hi hp=>?_,h.hs.arrs,h.hs.pin⟩,h.dfr,h.n,h.tmp⟩
 ·simp only[ca]at hi;by_cases e:i=k
  ·subst e;exact h.hs.ko i cs hv
  ·rw[if_neg e]at hi;exact h.hs.ko i ds hi
 ·simp only[ca]at hi;by_cases e:i=k
  ·subst e;rw[if_pos rfl]at hi;injection hi with hi;subst hi
   obtain⟨g,T,vs,e1,e2,e3⟩:=h.hs.objs i cs hv hp;exact⟨g,T,vs,e1,e2,e3.pz⟩
  ·rw[if_neg e]at hi;exact h.hs.objs i ds hi hp
theorem Oj{e:Exit}(k:Nat){cs:List AV}(hv:look k s.o=some cs)(h:VE cx Q ks e { s with o:=aZ k (cs.map fK) s.o }):VE cx Q ks e s:=fun a w ι hs=>h a w ι (hs.Mg hv)
def df(s:AS)(o:Oper):Option (FuncId×List AV) :=
 match o.op with
 | .call c=>match c.callee with
  | .value fo=>match s.ev fo,cG s c.args.toList with
   | some (.fn f aP),some l=>match db [] l with
    | true=>some (f,l.map fP++aP)
    | false=>none
   | _,_=>none
  | _=>none
 | _=>none
theorem E8{all:Array Oper}{r:List Oper}(o:Oper)(hg:o.guard=none){f:FuncId}{args:List AV}{V:AV}(h1:df s o=some (f,args))(hd:cm cx.n o.dst=true)(hcl:cf cx.P f=true)(hc:aU cx.P f args (fun v _=>v=V))(hv:V.cL []=true)(k:OT cx Q ks all r (s.put o.dst V)):OT cx Q ks all (o::r) s:=by
 unfold df at h1;split at h1
 ·rename_i c hop;split at h1
  ·rename_i fo hcal;split at h1
   ·rename_i f' aP l hf hl;split at h1
    ·rename_i hu;injection h1 with h1;injection h1 with e1 e2;subst e1
     exact Qr hc hg hop hcal hf hcl hd hl e2 hu hv k
    ·cases h1
   ·cases h1
  ·cases h1
 ·cases h1
theorem Gr{all:Array Oper}{l r:List Oper}(o:Oper){f:FuncId}{args:List AV}{V:AV}(hl:l=o::r)(hg:cd all s o=true)(hc:aU cx.P f args (fun v _=>v=V))(hcl:cf cx.P f=true)(h1:df s o=some (f,args))(hv:(cm cx.n o.dst&&V.cL [])=true)(k:OT cx Q ks all r (s.put o.dst V)):OT cx Q ks all l s:=by
 subst hl;simp only[Bool.and_eq_true]at hv;unfold cd at hg;split at hg
 ·rename_i h0;exact E8 o h0 h1 hv.1 hcl hc hv.2 k
 ·rename_i j b h0;split at hg
  ·rename_i v hv0;obtain⟨og,d,g1,g2,g3⟩:=jV hv0;have hb:v=b:=by cases v<;>cases b<;>simp at hg⊢
   subst hb;exact oW h0 g1 g2 g3 (E8 { o with guard:=none } rfl h1 hv.1 hcl hc hv.2 k)
  ·cases hg
end
section
variable{cx:Cx}{Q:Exit→Act→World→Prop}{ks:List aq}{s:AS}
theorem Fh{all:Array Oper}{r:List Oper}(o:Oper)(hg:o.guard=none){f:FuncId}{args:List AV}{V:AV}(id nid:Nat){ar:br}(h1:df s o=some (f,args))(hd:cm cx.n o.dst=true)(hcl:cf cx.P f=true)
  (hc:aU cx.P f args (fun v s1=>v=V∧look id s1.r=some ar)) (hid:V.cL []=false) (hn:has s.u nid=false) (hone:∀(N:Nat→Prop) w ι x,Rel N w ι V x→∃y,ι id=some y)
  (k:OT cx Q ks all r (({ s with r:=aZ nid ar s.r,u:=nid::s.u }:AS).put o.dst (V.eh id nid))) (htg:Nat.ble (id+1) TG=true):OT cx Q ks all (o::r) s:=by
 unfold df at h1;split at h1
 ·rename_i c hop;split at h1
  ·rename_i fo hcal;split at h1
   ·rename_i f' aP l hf hl;split at h1
    ·rename_i hu;injection h1 with h1;injection h1 with e1 e2;subst e1;subst e2
     intro a w ι hs;refine wpList_plain hg fun K hK=>?_;unfold Oper.wp;obtain⟨ys,hrc,hc1,hc2⟩:=iR hs hop hcal hf hcl;rw[hrc,Oper.upon_enter];refine (hc (NN cx.M ι) w _ (fun b hb=>jH hs.hs hb) (tq hs hl hu hc1 hc2)).mono ?_
     rintro e w' ⟨x,v,s1,ι1,rfl,⟨rfl,hlook⟩,hhs,hr⟩
     obtain⟨y,hy⟩:=hone _ _ _ _ hr;obtain⟨hs1,hNN⟩:=hs.hs.import hhs (Nat.le_of_ble_eq_true htg) hy hlook hn;have hno:=hs.hs.free hn;have h3:Rel (NN cx.M (ext ι nid y)) w' (ext ι nid y) (v.eh id nid) x:=hr.eh hNN (fun z hz=>by rw[hy]at hz;injection hz with hz;subst hz;exact cr _ _ _);have hsim:aN cx { s with r:=aZ nid ar s.r,u:=nid::s.u } a w' (ext ι nid y) :=
      hs.world hs1 rfl hhs.below.plain.size (fun b hlt hb=>by
       rcases er hb with hb|hb
       ·exact hb
       ·rcases (hhs.own id b (by rw[hy];exact hb)).1 with h9|h9;exact absurd hlt (Nat.not_lt.2 h9);exact h9.elim) (fun b hlt _=>hhs.below.plain.block b hlt) (dQ hno y)
     exact hK _ _ (k _ _ _ (hsim.put (eN hd) h3))
    ·cases h1
   ·cases h1
  ·cases h1
 ·cases h1
theorem fS(id:Nat):∀(N:Nat→Prop) w ι x,Rel N w ι (.ref id) x→∃y,ι id=some y:=by
 intro N w ι x h;cases h with|ref _ _ A n c h=>exact⟨_,h⟩
theorem Gt{id i:Nat}{cs:List AV}(hi:cs[i]?=some (.ref id)):∀(N:Nat→Prop) w ι x,Rel N w ι (.tup cs) x→∃y,ι id=some y:=by
 intro N w ι x h;cases h with
 | tup _ _ vs hl hr =>
  have hlt:i<vs.length:=by rw[←hl];exact(List.getElem?_eq_some_iff.1 hi).1
  exact fS id N w ι _ (hr i _ _ hi (List.getElem?_eq_getElem hlt))
theorem Rh{all:Array Oper}{l r:List Oper}(o:Oper)(id nid:Nat){f:FuncId}{args:List AV}{V V':AV}{ar:br}(hl:l=o::r)(hg:cd all s o=true)(hc:aU cx.P f args (fun v s1=>v=V∧look id s1.r=some ar))(hcl:cf cx.P f=true)
  (hone:∀(N:Nat→Prop) w ι x,Rel N w ι V x→∃y,ι id=some y) (h1:df s o=some (f,args)) (hd:cm cx.n o.dst=true) (hid:V.cL []=false) (hn:has s.u nid=false) (hv:V.eh id nid=V')
  (k:OT cx Q ks all r (({ s with r:=aZ nid ar s.r,u:=nid::s.u }:AS).put o.dst V')) (htg:Nat.ble (id+1) TG=true:=by kernel_rfl):OT cx Q ks all l s:=by
 subst hl;subst hv;unfold cd at hg;split at hg
 ·rename_i h0;exact Fh o h0 id nid h1 hd hcl hc hid hn hone k htg
 ·rename_i j b h0;split at hg
  ·rename_i v hv0;obtain⟨og,d,g1,g2,g3⟩:=jV hv0;have hb:v=b:=by cases v<;>cases b<;>simp at hg⊢
   subst hb;exact oW h0 g1 g2 g3 (Fh { o with guard:=none } rfl id nid h1 hd hcl hc hid hn hone k htg)
  ·cases hg
end
theorem aU.bT{P:Program}{f:FuncId}{args:List AV}{V V':AV}{id:Nat}{ar:br}(hc:aU P f args (fun v s=>v=V∧look id s.r=some ar))(hv:V.bT id ar.l=V')(htg:Nat.ble (id+1) TG=true:=by kernel_rfl):aU P f args (fun v _=>v=V'):=fun M w xs h1 h2 =>
 (hc M w xs h1 h2).mono fun _ _ ⟨x,v,s,ι,e1,⟨e2,e3⟩,e4,e5⟩=>by
  subst e2;subst hv;refine⟨x,v.bT id ar.l,s.bT id ar.l,dX ι id,e1,rfl,e4.bT (Nat.le_of_ble_eq_true htg) e3 rfl,?_⟩;exact e5.bT (fun b hb=>gU b hb) (fun i hi=>eu _ hi) (fun A n c hi=>e4.oh (Nat.le_of_ble_eq_true htg) e3 A n c hi _)
open Classical in
section
variable{cx:Cx}{Q:Exit→Act→World→Prop}{ks:List aq}{s:AS}
def qy:BinOp→Bool
 | .eql|.neq=>true
 | _=>false
def oX:BinOp→Bool
 | .neq=>true
 | _=>false
theorem Ew{all:Array Oper}{l r:List Oper}(o:Oper)(op:BinOp)(T T':TypeId)(x y:Operand)(d:Nat)(L:List (List AV)){e:TypeId}(hl:l=o::r)(hg:cd all s o=true)(hop:o.op=.binOp op T x y T')(hd:o.dst=some d)(hn:Nat.ble (d+1) cx.n=true)
  (hx:s.ev x=some (.sl L)) (hy:s.ev y=some .nils) (hu:((qy op&&(match cx.P.underlying T with|some (.slice _)=>true|_=>false))=true)) (ka:L=[]→OT cx Q ks all r (s.put (some d) (.bool (!oX op)))) (kb:OT cx Q ks all r (s.put (some d) (.bool (oX op)))):OT cx Q ks all l s:=by
 subst hl;have hdn:d<cx.n:=Nat.le_of_ble_eq_true hn;have key:∀(o:Oper),o.guard=none→o.op=.binOp op T x y T'→o.dst=some d→OT cx Q ks all (o::r) s:=by
  intro o hg hop hd a w ι hs;refine wpList_plain hg fun K hK=>?_;unfold Oper.wp;simp only[Bool.and_eq_true]at hu;obtain⟨hop2,hu⟩:=hu;split at hu
  case h_2=>cases hu
  rename_i et hut;have hxr:=hs.ev hx;have hyr:=hs.ev hy;have hye:a.eval y=.slice none 0 0:=by cases h':a.eval y<;>rw[h']at hyr<;>cases hyr;rfl
  have run:∀(A:Option Addr) (n c:Nat),a.eval x=.slice A n c→(execOp a.eval o).run cx.P w=.ok (.value (.bool (if A.isNone=true then !oX op else oX op))) w:=by
   intro A n c hA;have e1:∀{q:BinOp},q=.eql∨q=.neq→(eqGuard q T x y (.slice A n c) (.slice none 0 0)).run cx.P w=.ok () w:=by
    intro q hq;rcases hq with rfl|rfl<;>simp[eqGuard]
   have e2:(Op.equalIn 10000 T (.slice A n c) (.slice none 0 0)).run cx.P w=.ok A.isNone w:=by
    unfold Op.equalIn;rw[Sem.run_bind,run_underlying hut w];cases A<;>rfl
   unfold execOp;rw[hop];simp only[hA,hye,Sem.run_bind];cases op<;>simp[qy]at hop2
   ·have e3:binOp .eql T (.slice A n c) (.slice none 0 0)=(do pure (.bool (← Op.equalIn 10000 T (.slice A n c) (.slice none 0 0)))):=rfl;rw[e1 (.inl rfl),e3];simp only[Result.andThen_ok,Sem.run_bind,e2,Sem.run_pure,oX];cases A<;>rfl
   ·have e3:binOp .neq T (.slice A n c) (.slice none 0 0)=(do pure (.bool (!(← Op.equalIn 10000 T (.slice A n c) (.slice none 0 0))))):=rfl;rw[e1 (.inr rfl),e3];simp only[Result.andThen_ok,Sem.run_bind,e2,Sem.run_pure,oX];cases A<;>rfl
  have fin:∀b,OT cx Q ks all r (s.put (some d) (.bool b))→(execOp a.eval o).run cx.P w=.ok (.value (.bool b)) w→wpList cx.P all (Kw cx.P Q ks) r (a.put o.dst (.bool b)) w:=fun b hk _=>by
   rw[hd];exact hk _ _ _ (hs.put (fun k hk=>by injection hk with hk;subst hk;exact hdn) (.bool _ _))
  generalize hX:a.eval x=X at hxr;cases hxr with
  | sl0 _ A c =>
   have hr:=run A 0 c hX;rw[hr];cases A with
   | none=>exact hK _ _ (fin _ (by simpa using ka rfl) hr)
   | some _=>exact hK _ _ (fin _ (by simpa using kb) hr)
  | sl _ _ b o c sz val hz hb hN h1 hc hr hcap =>
   have hrr:=run _ _ _ hX;rw[hrr];exact hK _ _ (fin _ (by simpa using kb) hrr)
 unfold cd at hg;split at hg
 ·rename_i h0;exact key o h0 hop hd
 ·rename_i j b h0;split at hg
  ·rename_i v hv0;obtain⟨og,d',g1,g2,g3⟩:=jV hv0;have hb:v=b:=by cases v<;>cases b<;>simp at hg⊢
   subst hb;exact oW h0 g1 g2 g3 (key { o with guard:=none } rfl hop hd)
  ·cases hg
end
def ba(k:IntKind)(x:Int):List AV:=[.int k x]
def Ny(x:Bool):List AV:=[.bool x]
def Nz(x:ByteArray):List AV:=[.str x]
def Au{α:Type}(f:α→List AV)(x:List α):List AV:=[.sl (x.map f)]
structure V1(α:Type) where
 a0:α
structure V2(α:Type) where
 a0:α
 a1:α
structure V4(α:Type) where
 a0:α
 a1:α
 a2:α
 a3:α
instance{α:Type}[Inhabited α]:Inhabited (V2 α):=⟨⟨default,default⟩⟩
instance{α:Type}[Inhabited α]:Inhabited (V4 α):=⟨⟨default,default,default,default⟩⟩
def Gs{α:Type}(f:α→List AV)(x:V4 α):List AV:=f x.a0++(f x.a1++(f x.a2++f x.a3))
end Go.Proofs.YtocgkfoifehcbaaGreat

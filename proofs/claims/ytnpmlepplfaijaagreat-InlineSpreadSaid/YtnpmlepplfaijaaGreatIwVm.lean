/- Batches of steps on abstract states by computation; loops by fuel; rules for lists of structs. No program in sight. -/
import Derived.Test.YtnpmlepplfaijaaGreatIwAdrw
import Derived.Test.YtnpmlepplfaijaaGreatIwCut
import Derived.Test.YtnpmlepplfaijaaGreatIwOwn
namespace Go.Proofs.YtnpmlepplfaijaaGreat
set_option linter.all false
open Go.RowKit
def ql:Code→List Nat→Code
 | c,[]=>c
 | .seq a _,0::p=>ql a p
 | .seq _ b,_::p=>ql b p
 | .cond _ a _,0::p=>ql a p
 | .cond _ _ b,_::p=>ql b p
 | .block _ c,_::p=>ql c p
 | .loop c,_::p=>ql c p
 | c,_::_=>c
def cat(f:Func)(p:List Nat):Code:=match f.body with|some c=>ql c p|none=>.skip
def opsOf:Code→Array Oper
 | .region _ ops _=>ops
 | _ => #[]
def di(f:Func)(p:List Nat):Array Oper:=opsOf (cat f p)
def bd(f:Func)(p:List Nat)(k:Nat):Oper:=((di f p).toList.drop k).headD default
def aX(f:Func)(p:List Nat)(k:Nat):List Oper:=(di f p).toList.drop k
def rB(all:Array Oper)(s:AS)(j:Nat):Option Bool :=
 match all.toList[j]? with
 | some og=>match og.dst with
  | some d=>match look d s.t with
   | some (.bool v)=>some v
   | _=>none
  | none=>none
 | none=>none
def tX(n:Nat)(s:AS)(o:Oper):Option AS:=match cB n o.dst with|true=>some (s.put o.dst (.tup []))|false=>none
def yn(all:Array Oper)(s:AS)(j:Nat):Bool :=
 match all.toList[j]? with
 | some og=>match og.dst with
  | some d=>match look d s.t with
   | some (.tup [])=>true
   | _=>false
  | none=>false
 | none=>false
theorem HK{all:Array Oper}{s:AS}{j:Nat}(h:yn all s j=true):∃og d,all.toList[j]?=some og∧og.dst=some d∧look d s.t=some (.tup []):=by
 unfold yn at h;split at h
 ·rename_i og hog;split at h
  ·rename_i d hd;split at h
   ·rename_i hv;exact⟨og,d,hog,hd,hv⟩
   ·cases h
  ·cases h
 ·cases h
def lI(P:Program)(n:Nat)(all:Array Oper)(s:AS)(o:Oper):Option AS :=
 match o.guard with
 | none=>br P n s o
 | some (j,b)=>match rB all s j with
  | some true=>match b with|true=>br P n s { o with guard:=none }|false=>tX n s o
  | some false=>match b with|false=>br P n s { o with guard:=none }|true=>tX n s o
  | none=>match yn all s j with|true=>tX n s o|false=>none
def l9(P:Program)(n:Nat)(all:Array Oper):Nat→List Oper→AS→Option (List Oper×AS)
 | 0,l,s=>some (l,s)
 | _+1,[],s=>some ([],s)
 | k+1,o::r,s=>match lI P n all s o with
  | some s'=>l9 P n all k r s'
  | none=>none
theorem l3{all:Array Oper}{s:AS}{j:Nat}{v:Bool}(h:rB all s j=some v):∃og d,all.toList[j]?=some og∧og.dst=some d∧look d s.t=some (.bool v):=by
 unfold rB at h;split at h
 ·rename_i og hog;split at h
  ·rename_i d hd;split at h
   ·rename_i v' hv;injection h with h;subst h;exact⟨og,d,hog,hd,hv⟩
   ·cases h
  ·cases h
 ·cases h
section
variable{cx:Cx}{Q:Exit→Act→World→Prop}{ks:List aq}{s:AS}
theorem DX{all:Array Oper}{o og:Oper}{r:List Oper}{s':AS}{j d:Nat}{b:Bool}{v:AV}(hg:o.guard=some (j,b))(hj:all.toList[j]?=some og)(hd:og.dst=some d)(hv:look d s.t=some v)(hvb:v=.bool (!b)∨v=.tup [])(ho:tX cx.n s o=some s')(k:OT cx Q ks all r s'):OT cx Q ks all (o::r) s:=fun a w ι hs=>by
 obtain⟨x,hx,hr⟩:=hs.tmp d _ hv;have hj':all[j]?=some og:=by simpa using hj
 have hw:¬ Region.wanted o (yielded all a.tmps)=true:=by
  rcases hvb with rfl|rfl<;>cases hr<;>cases b<;>simp[Region.wanted,hg,yielded,hj',hd,hx]
 unfold wpList;rw[if_neg hw];unfold tX at ho;split at ho
 ·rename_i hdok;injection ho with ho;subst ho
  exact k _ _ _ (hs.put (fH hdok) (.tup _ _ [] rfl (fun i x v hx _=>by simp at hx)))
 ·cases ho
theorem Hs{all:Array Oper}{o:Oper}{r:List Oper}{s':AS}(h:lI cx.P cx.n all s o=some s')(k:OT cx Q ks all r s'):OT cx Q ks all (o::r) s:=by
 unfold lI at h;split at h
 ·rename_i hg;exact Ce hg h k
 ·rename_i j b hg;split at h
  ·rename_i hv;obtain⟨og,d,h1,h2,h3⟩:=l3 hv;cases b with
   | true=>exact rJ hg h1 h2 h3 (Ce rfl h k)
   | false=>exact DX hg h1 h2 h3 (.inl rfl) h k
  ·rename_i hv;obtain⟨og,d,h1,h2,h3⟩:=l3 hv;cases b with
   | false=>exact rJ hg h1 h2 h3 (Ce rfl h k)
   | true=>exact DX hg h1 h2 h3 (.inl rfl) h k
  ·split at h
   ·rename_i hu;obtain⟨og,d,h1,h2,h3⟩:=HK hu;exact DX hg h1 h2 h3 (.inr rfl) h k
   ·cases h
theorem t7{all:Array Oper}:∀(k:Nat) (l:List Oper) (s:AS) {l':List Oper} {s':AS},l9 cx.P cx.n all k l s=some (l',s')→OT cx Q ks all l' s'→OT cx Q ks all l s
 | 0,l,s,l',s',h,hk=>by simp only[l9,Option.some.injEq,Prod.mk.injEq]at h;rw[h.1,h.2];exact hk
 | k+1,[],s,l',s',h,hk=>by simp only[l9,Option.some.injEq,Prod.mk.injEq]at h;rw[h.1,h.2];exact hk
 | k+1,o::r,s,l',s',h,hk=>by
  unfold l9 at h;split at h
  ·rename_i s1 h1;exact Hs h1 (t7 k r s1 h hk)
  ·cases h
theorem W8{all:Array Oper}{l r:List Oper}{s':AS}(o:Oper)(hl:l=o::r)(h:lI cx.P cx.n all s o=some s')(k:OT cx Q ks all r s'):OT cx Q ks all l s:=hl ▸ Hs h k
end
theorem Qu{P:Program}{n:Nat}{all:Array Oper}{s s':AS}{o:Oper}(hg:o.guard=none)(h:br P n s o=some s'):lI P n all s o=some s':=by
 unfold lI;rw[hg];exact h
theorem TX{P:Program}{n:Nat}{all:Array Oper}{s s':AS}{o:Oper}{j:Nat}{b:Bool}(hg:o.guard=some (j,b))(hv:rB all s j=some b)(h:br P n s { o with guard:=none }=some s'):lI P n all s o=some s':=by
 unfold lI;rw[hg];simp only[hv];cases b<;>exact h
def cw(all:Array Oper)(s:AS)(o:Oper):Bool:=match o.guard with
 | none=>true
 | some (j,b)=>match rB all s j with
  | some v=>(match v,b with|true,true=>true|false,false=>true|_,_=>false)
  | none=>false
theorem Tt{P:Program}{n:Nat}{all:Array Oper}{s s':AS}{o:Oper}(hg:cw all s o=true)(h:br P n s o=some s'):lI P n all s o=some s':=by
 unfold cw at hg;split at hg
 ·rename_i h0;exact Qu h0 h
 ·rename_i j b h0;split at hg
  ·rename_i v hv;refine TX h0 (b:=b) ?_ h;rw[hv];cases v<;>cases b<;>simp at hg⊢
  ·cases hg
def Bd(P:Program)(n:Nat):List aq→Exit→AS→Option (List aq×Exit×AS)
 | .c .skip::ks,.normal,s=>some (ks,.normal,s)
 | .c (.seq x y)::ks,.normal,s=>some (.c x :: .c y::ks,.normal,s)
 | .c (.block id c)::ks,.normal,s=>some (.c c :: .b id::ks,.normal,s)
 | .b _::ks,.normal,s=>some (ks,.normal,s)
 | .c (.exit id)::ks,.normal,s=>some (ks,.exit id,s)
 | .c .ret::ks,.normal,s=>some (ks,.ret,s)
 | .c (.cond c x y)::ks,.normal,s=>match s.ev c with
  | some (.bool true)=>some (.c x::ks,.normal,s)
  | some (.bool false)=>some (.c y::ks,.normal,s)
  | _=>none
 | .c (.region _ ops false)::ks,.normal,s=>match l9 P n ops 10000 ops.toList s with
  | some ([],s')=>some (ks,.normal,s')
  | _=>none
 | .c _::ks,.exit id,s=>some (ks,.exit id,s)
 | .l _::ks,.exit id,s=>some (ks,.exit id,s)
 | .b id'::ks,.exit id,s=>match Nat.beq id id' with
  | true=>some (ks,.normal,s)
  | false=>some (ks,.exit id,s)
 | .c _::ks,.ret,s=>some (ks,.ret,s)
 | .l _::ks,.ret,s=>some (ks,.ret,s)
 | .b _::ks,.ret,s=>some (ks,.ret,s)
 | _,_,_=>none
def pA(P:Program)(n:Nat):Nat→List aq→Exit→AS→Option (List aq×Exit×AS)
 | 0,ks,e,s=>some (ks,e,s)
 | k+1,ks,e,s=>match Bd P n ks e s with
  | some (ks',e',s')=>pA P n k ks' e' s'
  | none=>none
theorem aag{cx:Cx}{Q:Exit→Act→World→Prop}{ks:List aq}{e:Exit}{s:AS}{ks':List aq}{e':Exit}{s':AS}(h:Bd cx.P cx.n ks e s=some (ks',e',s'))(hk:VE cx Q ks' e' s'):VE cx Q ks e s:=by
 unfold Bd at h;split at h
 case h_7 =>
  split at h
  ·rename_i hc;simp only[Option.some.injEq,Prod.mk.injEq]at h;obtain⟨rfl,rfl,rfl⟩:=h;exact WF hc hk
  ·rename_i hc;simp only[Option.some.injEq,Prod.mk.injEq]at h;obtain⟨rfl,rfl,rfl⟩:=h;exact Qd hc hk
  ·cases h
 case h_8 =>
  split at h
  ·rename_i hr;simp only[Option.some.injEq,Prod.mk.injEq]at h;obtain⟨rfl,rfl,rfl⟩:=h;exact Gj (t7 _ _ _ hr (Ms hk))
  ·cases h
 case h_11 =>
  split at h
  ·rename_i hb;have:=Nat.eq_of_beq_eq_true hb;simp only[Option.some.injEq,Prod.mk.injEq]at h;obtain⟨rfl,rfl,rfl⟩:=h;subst this;exact WH hk
  ·rename_i hb;simp only[Option.some.injEq,Prod.mk.injEq]at h;obtain⟨rfl,rfl,rfl⟩:=h;exact PB (fun e=>by subst e;rw[Nat.beq_refl]at hb;cases hb) hk
 all_goals (first|(simp only[Option.some.injEq,Prod.mk.injEq]at h;obtain⟨rfl,rfl,rfl⟩:=h;first|exact Vh hk|exact Tv hk|exact PY hk|exact OA hk|exact aaV hk|exact TN hk|exact abv hk|exact Xe hk|exact TR hk|exact RW hk|exact Q6 hk)|cases h)
theorem DB{cx:Cx}{Q:Exit→Act→World→Prop}:∀(k:Nat) (ks:List aq) (e:Exit) (s:AS) {ks':List aq} {e':Exit} {s':AS},pA cx.P cx.n k ks e s=some (ks',e',s')→VE cx Q ks' e' s'→VE cx Q ks e s:=by
 intro k
 induction k with
 | zero =>
  intro ks e s ks' e' s' h hk;simp only[pA,Option.some.injEq,Prod.mk.injEq]at h;obtain⟨rfl,rfl,rfl⟩:=h;exact hk
 | succ k ih =>
  intro ks e s ks' e' s' h hk;unfold pA at h;split at h
  ·rename_i h1;exact aag h1 (ih _ _ _ h hk)
  ·cases h
def j7{α:Type}(l:List (Nat×α)):List Nat→Option (List (Nat×α))
 | []=>some []
 | k::r=>match look k l,j7 l r with|some v,some m=>some ((k,v)::m)|_,_=>none
def xd(u:List Nat):List (Nat×AV)→Bool
 | []=>true
 | (_,v)::r=>v.cJ u&&xd u r
def yj(u:List Nat):List (Nat×List AV)→Bool
 | []=>true
 | (k,v)::r=>cZ u v&&u.contains k&&yj u r
def z6(u:List Nat):List (Nat×bo)→Bool
 | []=>true
 | (k,_)::r=>u.contains k&&z6 u r
def pins:List Nat→List Nat
 | []=>[]
 | k::r=>match Nat.ble 1000000 k with
  | true=>k::(k-1000000)::pins r
  | false=>pins r
theorem Ga:∀{u:List Nat} {id:Nat},u.contains (cW id)=true→(pins u).contains (cW id)=true∧(pins u).contains id=true
 | [],_,h=>by cases h
 | k::r,id,h=>by
  simp only[List.contains_cons,Bool.or_eq_true,beq_iff_eq]at h;unfold pins;rcases h with h|h
  ·subst h;have:Nat.ble 1000000 (cW id)=true:=by unfold cW;simp
   rw[this];simp[cW]
  ·have ih:=Ga h;split
   ·simp only[List.contains_cons,ih.1,ih.2,Bool.or_true,and_self]
   ·exact ih
def rG:List (Nat×AV)→List Nat
 | []=>[]
 | (_,.sit id _ _ _)::r=>id::rG r
 | _::r=>rG r
def AS.pick(s:AS)(ts os rs:List Nat):Option AS :=
 match j7 s.t ts,j7 s.o os,j7 s.r rs with
 | some t,some o,some r=>if (xd (os++rs++(rG t++pins s.u)) t&&yj (os++rs++(rG t++pins s.u)) o&&z6 (os++rs++(rG t++pins s.u)) r)=true then some ⟨t,o,r,os++rs++(rG t++pins s.u)⟩ else none
 | _,_,_=>none
theorem NW{u:List Nat}{l:List (Nat×AV)}:∀{ks:List Nat} {m:List (Nat×AV)},j7 l ks=some m→xd u m=true→yu u l m
 | [],m,h,_=>by injection h with h;subst h;trivial
 | k::r,m,h,hu=>by
  unfold j7 at h;split at h
  ·rename_i v m' h1 h2;injection h with h;subst h
   simp only[xd,Bool.and_eq_true]at hu;exact⟨h1,hu.1,NW h2 hu.2⟩
  ·cases h
theorem N8{u:List Nat}{l:List (Nat×List AV)}:∀{ks:List Nat} {m:List (Nat×List AV)},j7 l ks=some m→yj u m=true→zE u l m
 | [],m,h,_=>by injection h with h;subst h;trivial
 | k::r,m,h,hu=>by
  unfold j7 at h;split at h
  ·rename_i v m' h1 h2;injection h with h;subst h
   simp only[yj,Bool.and_eq_true]at hu;exact⟨h1,hu.1.1,hu.1.2,N8 h2 hu.2⟩
  ·cases h
theorem HP{u:List Nat}{l:List (Nat×bo)}:∀{ks:List Nat} {m:List (Nat×bo)},j7 l ks=some m→z6 u m=true→z5 u l m
 | [],m,h,_=>by injection h with h;subst h;trivial
 | k::r,m,h,hu=>by
  unfold j7 at h;split at h
  ·rename_i v m' h1 h2;injection h with h;subst h
   simp only[z6,Bool.and_eq_true]at hu;exact⟨h1,hu.1,HP h2 hu.2⟩
  ·cases h
theorem N1{s s':AS}{ts os rs:List Nat}(h:s.pick ts os rs=some s'):Sub s' s:=by
 unfold AS.pick at h;split at h
 ·rename_i t o r h1 h2 h3;split at h
  ·rename_i hu;injection h with h;subst h
   simp only[Bool.and_eq_true]at hu;refine⟨NW h1 hu.1.1,N8 h2 hu.1.2,HP h3 hu.2,fun id hid=>?_⟩;have:=Ga hid;simp only[List.contains_eq_mem,decide_eq_true_eq]at this⊢;exact⟨List.mem_append_right _ (List.mem_append_right _ this.1),List.mem_append_right _ (List.mem_append_right _ this.2)⟩
  ·cases h
 ·cases h
section
variable{cx:Cx}{Q:Exit→Act→World→Prop}{ks:List aq}{s:AS}
def Ac(P:Program)(n k:Nat)(ts os rs:List Nat)(ks:List aq)(e:Exit)(s:AS):Option (List aq×Exit×AS) :=
 match pA P n k ks e s with
 | some (ks',e',s')=>match s'.pick ts os rs with|some s''=>some (ks',e',s'')|none=>none
 | none=>none
theorem J3{e e':Exit}{ks':List aq}{s':AS}(k:Nat)(ts os rs:List Nat)(h:Ac cx.P cx.n k ts os rs ks e s=some (ks',e',s'))(hk:VE cx Q ks' e' s'):VE cx Q ks e s:=by
 unfold Ac at h;split at h
 ·rename_i k1 e1 s1 h1;split at h
  ·rename_i s2 h2;simp only[Option.some.injEq,Prod.mk.injEq]at h;obtain⟨rfl,rfl,rfl⟩:=h;exact DB _ _ _ _ h1 (KI _ (N1 h2) hk)
  ·cases h
 ·cases h
theorem aR.M2{a:Act}{w:World}{ι:Env}(h:aR cx s a w ι){k:Nat}{v v':AV}(hv:look k s.t=some v)(he:v=v'):aR cx { s with t:=aU k v' s.t } a w ι:=by
 subst he;refine⟨⟨h.hs.below,h.hs.old,h.hs.use,h.hs.own,h.hs.inj,h.hs.ko,h.hs.kr,h.hs.objs,h.hs.arrs,h.hs.pin⟩,h.dfr,h.n,fun j y hj=>?_⟩;simp only[ce]at hj;by_cases e:j=k
 ·subst e;rw[if_pos rfl]at hj;injection hj with hj;subst hj;exact h.tmp j v hv
 ·rw[if_neg e]at hj;exact h.tmp j y hj
theorem JE{e:Exit}(k:Nat){v v':AV}{t':List (Nat×AV)}(hv:look k s.t=some v)(he:v=v')(ht:aU k v' s.t=t')(h:VE cx Q ks e { s with t:=t' }):VE cx Q ks e s:=fun a w ι hs=>h a w ι (ht ▸ hs.M2 hv he)
theorem Ya{all:Array Oper}{l:List Oper}(k:Nat){v v':AV}{t':List (Nat×AV)}(hv:look k s.t=some v)(he:v=v')(ht:aU k v' s.t=t')(h:OT cx Q ks all l { s with t:=t' }):OT cx Q ks all l s:=fun a w ι hs=>h a w ι (ht ▸ hs.M2 hv he)
def LP(cx:Cx)(Q:Exit→Act→World→Prop)(ks:List aq)(c:Code)(m:Nat)(s:AS):Prop:=∀a w ι,aR cx s a w ι→Code.rounds cx.P c (Kw cx.P Q ks) m a w
abbrev kl(cx:Cx)(Q:Exit→Act→World→Prop)(ks:List aq)(c:Code)(m:Nat):aq:=.l (Code.rounds cx.P c (Kw cx.P Q ks) m)
theorem n6{c c':Code}(m:Nat)(hc:c'=.loop c)(h:LP cx Q ks c m s):VE cx Q (.c c'::ks) .normal s:=by
 subst hc;exact fun a w ι hs=>wp_loop_rounds m (h a w ι hs)
theorem bp{c:Code}{m:Nat}(h:VE cx Q (.c c::kl cx Q ks c m::ks) .normal s):LP cx Q ks c (m+1) s:=fun a w ι hs=>h a w ι hs
theorem bt{c:Code}{m:Nat}(h:LP cx Q ks c m s):VE cx Q (kl cx Q ks c m::ks) .normal s:=fun a w ι hs=>h a w ι hs
end
theorem ak{α:Type}{c:Bool}{x y:Option α}{r:α}(h:(if c=true then x else y)=some r):(c=true∧x=some r)∨(c=false∧y=some r):=by
 cases c
 ·exact .inr ⟨rfl,by simpa using h⟩
 ·exact .inl ⟨rfl,by simpa using h⟩
def aC{α:Type}(c:Bool)(x:Option α):Option α:=match c with|true=>x|false=>none
theorem aK{α:Type}{c:Bool}{x:Option α}{r:α}(h:aC c x=some r):c=true∧x=some r:=by
 cases c
 ·cases h
 ·exact⟨rfl,h⟩
theorem bind_some{α β:Type}{x:Option α}{k:α→Option β}{r:β}(h:x.bind k=some r):∃y,x=some y∧k y=some r:=by
 cases x with
 | none=>cases h
 | some y=>exact⟨y,rfl,h⟩
def aa(n:Int):Int:=IntKind.wrap .i64 n
theorem Bl{α β:Type}(f:α→β)(L:List α)(d:α){j:Nat}(h:j<L.length):(L.map f)[j]?=some (f (L.getD j d)):=by
 rw[List.getElem?_map,List.getElem?_eq_getElem h];simp[List.getD_eq_getElem?_getD,List.getElem?_eq_getElem h]
def aY(i:Int)(n:Nat):Bool:=decide (0≤i)&&decide (i<n)
theorem cj{i:Int}{n:Nat}(h:aY i n=true):0≤i∧i.toNat<n:=by
 simp only[aY,Bool.and_eq_true,decide_eq_true_eq]at h;omega
section
variable{P:Program}{n:Nat}{s:AS}{o:Oper}{α:Type}[Inhabited α]
theorem acy(enc exp:α→List AV)(L:List α)(i:Int)(T:TypeId)(x y:Operand)(d:Nat){sz:Nat}{e:TypeId}{kd:IntKind}(hop:o.op=.indexAddr T x y)(hd:o.dst=some d)(hn:Nat.ble (d+1) n=true)(hx:s.ev x=some (.sl (L.map enc)))(hy:s.ev y=some (.int kd i))
  (ha:lL P T=none) (ht:eX P T=some (e,sz)) (hb:aY i L.length=true) (hz:∀a,(enc a).length=sz) (he:∀a,enc a=exp a):br P n s o=some (s.put (some d) (.cptr (exp (L.getD i.toNat default)))):=by
 obtain⟨h0,h1⟩:=cj hb;have hdn:d<n:=Nat.le_of_ble_eq_true hn;unfold br;rw[if_pos (by rw[hd];simpa[cB]using hdn)];simp only[hop,hx,hy,pK,qL,if_pos h0,ha,ht,Bl enc L default h1,hd,if_pos (hz _)];rw[he]
theorem acQ(enc:α→List AV)(L:List α)(T:TypeId)(x:Operand)(d:Nat){e:TypeId×Nat}(hop:o.op=.call ⟨.builtin .len,#[x],#[T]⟩)(hd:o.dst=some d)(hn:Nat.ble (d+1) n=true)(hx:s.ev x=some (.sl (L.map enc)))
  (ht:eX P T=some e):br P n s o=some (s.put (some d) (.int .i64 L.length)):=by
 have hdn:d<n:=Nat.le_of_ble_eq_true hn;unfold br;rw[if_pos (by rw[hd];simpa[cB]using hdn)];simp only[hop,lZ,hx,uj,ht,List.length_map,hd]
theorem Ro(enc:α→List AV)(L:List α)(T:TypeId)(x:Operand)(d:Nat){id sz:Nat}{e:TypeId×Nat}{et:TypeId}(hop:o.op=.call ⟨.builtin .len,#[x],#[T]⟩)(hd:o.dst=some d)(hn:Nat.ble (d+1) n=true)(hx:s.ev x=some (.ref id))(hr:look id s.r=some ⟨et,sz,L.map enc⟩)
  (ht:eX P T=some e):br P n s o=some (s.put (some d) (.int .i64 L.length)):=by
 have hdn:d<n:=Nat.le_of_ble_eq_true hn;unfold br;rw[if_pos (by rw[hd];simpa[cB]using hdn)];simp only[hop,lZ,hx,uj,ht,hr,List.length_map,hd]
theorem O9(enc:α→List AV)(L:List α)(i:Int)(T:TypeId)(x y:Operand)(d:Nat){id sz:Nat}{e et:TypeId}{kd:IntKind}(hop:o.op=.indexAddr T x y)(hd:o.dst=some d)(hn:Nat.ble (d+1) n=true)(hx:s.ev x=some (.ref id))(hy:s.ev y=some (.int kd i))
  (hr:look id s.r=some ⟨et,sz,L.map enc⟩) (ha:lL P T=none) (ht:eX P T=some (e,sz)) (hb:aY i L.length=true):br P n s o=some (s.put (some d) (.eptr id sz i.toNat 0)):=by
 obtain⟨h0,h1⟩:=cj hb;have hdn:d<n:=Nat.le_of_ble_eq_true hn;unfold br;rw[if_pos (by rw[hd];simpa[cB]using hdn)];simp only[hop,hx,hy,pK,qL,if_pos h0,ha,ht,hr,hd,List.length_map,h1,and_self,if_true]
theorem PC(enc exp:α→List AV)(L:List α)(T:TypeId)(x:Operand)(d:Nat){id sz j off:Nat}{et:TypeId}{v:AV}(htg:id<TG)(hop:o.op=.load T x)(hd:o.dst=some d)(hn:Nat.ble (d+1) n=true)(hx:s.ev x=some (.eptr id sz j off))
  (hr:look id s.r=some ⟨et,sz,L.map enc⟩) (hj:j<L.length) (he:∀a,enc a=exp a) (hv:eZ P T ((exp (L.getD j default)).drop off)=some v):br P n s o=some (s.put (some d) v):=by
 have hdn:d<n:=Nat.le_of_ble_eq_true hn;rw[←he]at hv;unfold br;rw[if_pos (by rw[hd];simpa[cB]using hdn)];simp only[htg,hop,hx,jW,AS.mem,hr,if_true,Bl enc L default hj,hd,hv]
theorem abZ(enc exp:α→List AV)(L:List α)(new:α)(T:TypeId)(x y:Operand){id sz j off:Nat}{et:TypeId}{v:AV}{nv:List AV}(hop:o.op=.store T x y)(hd:o.dst=none)(hx:s.ev x=some (.eptr id sz j off))(hy:s.ev y=some v)
  (hr:look id s.r=some ⟨et,sz,L.map enc⟩) (hj:j<L.length) (hv:gR v=some nv) (hz:b8 P T=some nv.length) (he:∀a,enc a=exp a) (hl:Nat.ble (off+nv.length) (exp (L.getD j default)).length=true) (hu:cZ [] nv=true) (hs:fg off nv (exp (L.getD j default))=exp new) :
  br P n s o=some { s with r:=aU id ⟨et,sz,(L.set j new).map enc⟩ s.r }:=by
 have hl':=Nat.le_of_ble_eq_true hl;rw[←he]at hl' hs;rw[←he]at hs;unfold br;rw[if_pos (by rw[hd];rfl)];simp only[hop,hd,hx,hy,nE,hr,hv,Bl enc L default hj,hz,hl',hu,and_self,if_true,hs,List.map_set]
def fits(n bytes:Nat):Bool:=decide (n≤maxLen)&&decide (n*bytes≤140737488355328)
theorem D4{n b:Nat}(h:fits n b=true):n≤maxLen∧n*b≤140737488355328:=by simpa[fits]using h
theorem E2(enc:α→List AV)(M:List α){sz:Nat}(hz:∀a,(enc a).length=sz):(M.map enc).all (fun e=>e.length == sz)=true:=by
 simp[List.all_eq_true,hz]
theorem VL(enc:α→List AV)(L M:List α)(T:TypeId)(x y:Operand)(d:Nat){id sz bytes:Nat}{et:TypeId}{new:List (List AV)}{t':List (Nat×AV)}{o':List (Nat×List AV)}(hop:o.op=.call ⟨.builtin .append,#[x,y],#[T,T]⟩)(hd:o.dst=some d)(hn:Nat.ble (d+1) n=true)
  (hx:s.ev x=some (.ref id)) (hy:s.ev y=some (.sl new)) (hnew:new=M.map enc) (hr:look id s.r=some ⟨et,sz,L.map enc⟩) (ht:ja P T=some (et,sz,bytes)) (hz:∀a,(enc a).length=sz) (hf:fits (L.length+M.length) bytes=true) (hnp:s.u.contains (cW id)=false)
  (h1:cR id s.t=t') (h2:dv id s.o=o'):br P n s o=some { t:=aU d (.ref id) t',o:=o',r:=aU id ⟨et,sz,(L++M).map enc⟩ s.r,u:=s.u }:=by
 have hdn:d<n:=Nat.le_of_ble_eq_true hn;obtain⟨f1,f2⟩:=D4 hf;subst hnew;unfold br;rw[if_pos (by rw[hd];simpa[cB]using hdn)];simp only[hop,hd,hx,hy,if_true,n8,ht,jB,E2 enc M hz,hr,hnp,List.length_map,f1,f2,and_self,h1,h2,List.map_append]
theorem Va(enc:α→List AV)(M:List α)(T:TypeId)(x y:Operand)(d:Nat){sz bytes:Nat}{et:TypeId}{new:List (List AV)}{t':List (Nat×AV)}{o':List (Nat×List AV)}(hop:o.op=.call ⟨.builtin .append,#[x,y],#[T,T]⟩)(hd:o.dst=some d)(hn:Nat.ble (d+1) n=true)
  (hx:s.ev x=some .nils) (hy:s.ev y=some (.sl new)) (hnew:new=M.map enc) (hu:has s.u d=false) (ht:ja P T=some (et,sz,bytes)) (hz:∀a,(enc a).length=sz) (hf:fits M.length bytes=true)
  (h1:cR d s.t=t') (h2:dv d s.o=o'):br P n s o=some { t:=aU d (.ref d) t',o:=o',r:=aU d ⟨et,sz,M.map enc⟩ s.r,u:=d::s.u }:=by
 have hdn:d<n:=Nat.le_of_ble_eq_true hn;obtain⟨f1,f2⟩:=D4 hf;subst hnew;unfold br;rw[if_pos (by rw[hd];simpa[cB]using hdn)];simp only[hop,hd,hx,hy,if_true,n8,ht,jB,E2 enc M hz,hu,List.length_map,f1,f2,and_self,h1,h2,not_true,or_false,Bool.false_eq_true,if_false]
theorem Ss(T T':TypeId)(x y:Operand)(d:Nat){a b:ByteArray}(hop:o.op=.binOp .add T x y T')(hd:o.dst=some d)(hn:Nat.ble (d+1) n=true)(hx:s.ev x=some (.str a))(hy:s.ev y=some (.str b))(hb:tZ a b=true):br P n s o=some (s.put (some d) (.str (a++b))):=by
 have hdn:d<n:=Nat.le_of_ble_eq_true hn;unfold br;rw[if_pos (by rw[hd];simpa[cB]using hdn)];simp only[hop,hx,hy,xO,iu,FG,hb,if_true,hd]
def cL(a b:Int)(n:Nat):Bool:=decide (0≤a)&&(decide (a≤b)&&decide (b≤n))
theorem oM(enc:α→List AV)(L:List α)(a b:Int)(T:TypeId)(x:Operand)(lo hi:Option Operand)(d:Nat){e:TypeId}{sz:Nat}(hop:o.op=.slice T x lo hi none)(hd:o.dst=some d)(hn:Nat.ble (d+1) n=true)(hx:s.ev x=some (.sl (L.map enc)))
  (hu:P.underlying T=some (.slice e)) (hz:b8 P e=some sz) (hlen:∀c,(enc c).length=sz) (hb:∀k,k=L.length→iY s k lo hi=some (a,b)) (hc:cL a b L.length=true):br P n s o=some (s.put (some d) (.sl ((List.drop a.toNat (List.take b.toNat L)).map enc))):=by
 have hdn:d<n:=Nat.le_of_ble_eq_true hn;simp only[cL,Bool.and_eq_true,decide_eq_true_eq]at hc;unfold br;rw[if_pos (by rw[hd];simpa[cB]using hdn)];simp only[hop,iu,hx,hu,hz,E2 enc L hlen,if_true,iD,List.length_map,hb L.length rfl,hc.1,hc.2.1,hc.2.2,and_self,hd];rw[List.map_drop,List.map_take]
end
theorem MU{P:Program}{n:Nat}{s:AS}{o:Oper}{α:Type}(enc:α→List AV)(L:List α)(a b:Int)(T:TypeId)(x:Operand)(lo hi:Option Operand)(d:Nat){id e sz:Nat}{et:TypeId}(hop:o.op=.slice T x lo hi none)(hd:o.dst=some d)(hn:Nat.ble (d+1) n=true)(hx:s.ev x=some (.ref id))
  (hr:look id s.r=some ⟨et,sz,L.map enc⟩) (hu:P.underlying T=some (.slice e)) (hz:b8 P e=some sz) (hb:∀k,k=L.length→iY s k lo hi=some (a,b)) (hc:cL a b L.length=true):br P n s o=some (s.put (some d) (.sref id sz a.toNat (b.toNat-a.toNat))):=by
 have hdn:d<n:=Nat.le_of_ble_eq_true hn;simp only[cL,Bool.and_eq_true,decide_eq_true_eq]at hc;unfold br;rw[if_pos (by rw[hd];simpa[cB]using hdn)];simp only[hop,iu,hx,hu,hz,hr,if_true,iD,List.length_map,hb L.length rfl,hc.1,hc.2.1,hc.2.2,and_self,hd]
section
variable{cx:Cx}{Q:Exit→Act→World→Prop}{ks:List aq}{s:AS}
theorem U2{e:Exit}(k:Nat){b b':Bool}(he:b=b')(hv:look k s.t=some (.bool b))(h:VE cx Q ks e { s with t:=aU k (.bool b') s.t }):VE cx Q ks e s:=JE k hv (congrArg AV.bool he) rfl h
theorem Zd{all:Array Oper}{l:List Oper}(k:Nat){b b':Bool}(he:b=b')(hv:look k s.t=some (.bool b))(h:OT cx Q ks all l { s with t:=aU k (.bool b') s.t }):OT cx Q ks all l s:=Ya k hv (congrArg AV.bool he) rfl h
theorem aR.pzo{a:Act}{w:World}{ι:Env}(h:aR cx s a w ι){k:Nat}{cs:List AV}(hv:look k s.o=some cs):aR cx { s with o:=aU k (cs.map eD) s.o } a w ι:=by
 refine⟨⟨h.hs.below,h.hs.old,h.hs.use,h.hs.own,h.hs.inj,fun i ds hi=>?_,h.hs.kr,fun i ds hi hp=>?_,h.hs.arrs,h.hs.pin⟩,h.dfr,h.n,h.tmp⟩
 ·simp only[ce]at hi;by_cases e:i=k
  ·subst e;exact h.hs.ko i cs hv
  ·rw[if_neg e]at hi;exact h.hs.ko i ds hi
 ·simp only[ce]at hi;by_cases e:i=k
  ·subst e;rw[if_pos rfl]at hi;injection hi with hi;subst hi
   obtain⟨g,T,vs,e1,e2,e3⟩:=h.hs.objs i cs hv hp;exact⟨g,T,vs,e1,e2,e3.pz⟩
  ·rw[if_neg e]at hi;exact h.hs.objs i ds hi hp
theorem TJ{e:Exit}(k:Nat){cs:List AV}(hv:look k s.o=some cs)(h:VE cx Q ks e { s with o:=aU k (cs.map eD) s.o }):VE cx Q ks e s:=fun a w ι hs=>h a w ι (hs.pzo hv)
def fv(s:AS)(o:Oper):Option (FuncId×List AV) :=
 match o.op with
 | .call c=>match c.callee with
  | .value fo=>match s.ev fo,c9 s c.args.toList with
   | some (.fn f bb),some l=>match cZ [] l with
    | true=>some (f,l.map gm++bb)
    | false=>none
   | _,_=>none
  | _=>none
 | _=>none
theorem Jk{all:Array Oper}{r:List Oper}(o:Oper)(hg:o.guard=none){f:FuncId}{args:List AV}{V:AV}(h1:fv s o=some (f,args))(hd:cB cx.n o.dst=true)(hcl:cN cx.P f=true)(hc:aO cx.P f args (fun v _=>v=V))(hv:V.cJ []=true)(k:OT cx Q ks all r (s.put o.dst V)):OT cx Q ks all (o::r) s:=by
 unfold fv at h1;split at h1
 ·rename_i c hop;split at h1
  ·rename_i fo hcal;split at h1
   ·rename_i f' bb l hf hl;split at h1
    ·rename_i hu;injection h1 with h1;injection h1 with e1 e2;subst e1
     exact VF hc hg hop hcal hf hcl hd hl e2 hu hv k
    ·cases h1
   ·cases h1
  ·cases h1
 ·cases h1
theorem Mn{all:Array Oper}{l r:List Oper}(o:Oper){f:FuncId}{args:List AV}{V:AV}(hl:l=o::r)(hg:cw all s o=true)(hc:aO cx.P f args (fun v _=>v=V))(hcl:cN cx.P f=true)(h1:fv s o=some (f,args))(hv:(cB cx.n o.dst&&V.cJ [])=true)(k:OT cx Q ks all r (s.put o.dst V)):OT cx Q ks all l s:=by
 subst hl;simp only[Bool.and_eq_true]at hv;unfold cw at hg;split at hg
 ·rename_i h0;exact Jk o h0 h1 hv.1 hcl hc hv.2 k
 ·rename_i j b h0;split at hg
  ·rename_i v hv0;obtain⟨og,d,g1,g2,g3⟩:=l3 hv0;have hb:v=b:=by cases v<;>cases b<;>simp at hg⊢
   subst hb;exact rJ h0 g1 g2 g3 (Jk { o with guard:=none } rfl h1 hv.1 hcl hc hv.2 k)
  ·cases hg
end
section
variable{cx:Cx}{Q:Exit→Act→World→Prop}{ks:List aq}{s:AS}
theorem JU{all:Array Oper}{r:List Oper}(o:Oper)(hg:o.guard=none){f:FuncId}{args:List AV}{V:AV}(id nid:Nat){ar:bo}(h1:fv s o=some (f,args))(hd:cB cx.n o.dst=true)(hcl:cN cx.P f=true)
  (hc:aO cx.P f args (fun v s1=>v=V∧look id s1.r=some ar)) (hid:V.cJ []=false) (hn:has s.u nid=false) (hone:∀(N:Nat→Prop) w ι x,Rel N w ι V x→∃y,ι id=some y)
  (k:OT cx Q ks all r (({ s with r:=aU nid ar s.r,u:=nid::s.u }:AS).put o.dst (V.eL id nid))) (htg:Nat.ble (id+1) TG=true):OT cx Q ks all (o::r) s:=by
 unfold fv at h1;split at h1
 ·rename_i c hop;split at h1
  ·rename_i fo hcal;split at h1
   ·rename_i f' bb l hf hl;split at h1
    ·rename_i hu;injection h1 with h1;injection h1 with e1 e2;subst e1;subst e2
     intro a w ι hs;refine wpList_plain hg fun K hK=>?_;unfold Oper.wp;obtain⟨ys,hrc,hc1,hc2⟩:=kM hs hop hcal hf hcl;rw[hrc,Oper.upon_enter];refine (hc (NN cx.M ι) w _ (fun b hb=>nL hs.hs hb) (yg hs hl hu hc1 hc2)).mono ?_
     rintro e w' ⟨x,v,s1,ι1,rfl,⟨rfl,hlook⟩,hhs,hr⟩
     obtain⟨y,hy⟩:=hone _ _ _ _ hr;obtain⟨hs1,hNN⟩:=hs.hs.import hhs (Nat.le_of_ble_eq_true htg) hy hlook hn;have hno:=hs.hs.free hn;have h3:Rel (NN cx.M (ext ι nid y)) w' (ext ι nid y) (v.eL id nid) x:=hr.eL hNN (fun z hz=>by rw[hy]at hz;injection hz with hz;subst hz;exact cF _ _ _);have hsim:aR cx { s with r:=aU nid ar s.r,u:=nid::s.u } a w' (ext ι nid y) :=
      hs.world hs1 rfl hhs.below.plain.size (fun b hlt hb=>by
       rcases fb hb with hb|hb
       ·exact hb
       ·rcases (hhs.own id b (by rw[hy];exact hb)).1 with h9|h9;exact absurd hlt (Nat.not_lt.2 h9);exact h9.elim) (fun b hlt _=>hhs.below.plain.block b hlt) (dQ hno y)
     exact hK _ _ (k _ _ _ (hsim.put (fH hd) h3))
    ·cases h1
   ·cases h1
  ·cases h1
 ·cases h1
theorem fx(id:Nat):∀(N:Nat→Prop) w ι x,Rel N w ι (.ref id) x→∃y,ι id=some y:=by
 intro N w ι x h;cases h with|ref _ _ A n c h=>exact⟨_,h⟩
theorem wg{id i:Nat}{cs:List AV}(hi:cs[i]?=some (.ref id)):∀(N:Nat→Prop) w ι x,Rel N w ι (.tup cs) x→∃y,ι id=some y:=by
 intro N w ι x h;cases h with
 | tup _ _ vs hl hr =>
  have hlt:i<vs.length:=by rw[←hl];exact(List.getElem?_eq_some_iff.1 hi).1
  exact fx id N w ι _ (hr i _ _ hi (List.getElem?_eq_getElem hlt))
theorem acf{all:Array Oper}{l r:List Oper}(o:Oper)(id nid:Nat){f:FuncId}{args:List AV}{V V':AV}{ar:bo}(hl:l=o::r)(hg:cw all s o=true)(hc:aO cx.P f args (fun v s1=>v=V∧look id s1.r=some ar))(hcl:cN cx.P f=true)
  (hone:∀(N:Nat→Prop) w ι x,Rel N w ι V x→∃y,ι id=some y) (h1:fv s o=some (f,args)) (hd:cB cx.n o.dst=true) (hid:V.cJ []=false) (hn:has s.u nid=false) (hv:V.eL id nid=V')
  (k:OT cx Q ks all r (({ s with r:=aU nid ar s.r,u:=nid::s.u }:AS).put o.dst V')) (htg:Nat.ble (id+1) TG=true:=by kernel_rfl):OT cx Q ks all l s:=by
 subst hl;subst hv;unfold cw at hg;split at hg
 ·rename_i h0;exact JU o h0 id nid h1 hd hcl hc hid hn hone k htg
 ·rename_i j b h0;split at hg
  ·rename_i v hv0;obtain⟨og,d,g1,g2,g3⟩:=l3 hv0;have hb:v=b:=by cases v<;>cases b<;>simp at hg⊢
   subst hb;exact rJ h0 g1 g2 g3 (JU { o with guard:=none } rfl id nid h1 hd hcl hc hid hn hone k htg)
  ·cases hg
end
theorem aO.bZ{P:Program}{f:FuncId}{args:List AV}{V V':AV}{id:Nat}{ar:bo}(hc:aO P f args (fun v s=>v=V∧look id s.r=some ar))(hv:V.bZ id ar.l=V')(htg:Nat.ble (id+1) TG=true:=by kernel_rfl):aO P f args (fun v _=>v=V'):=fun M w xs h1 h2 =>
 (hc M w xs h1 h2).mono fun _ _ ⟨x,v,s,ι,e1,⟨e2,e3⟩,e4,e5⟩=>by
  subst e2;subst hv;refine⟨x,v.bZ id ar.l,s.bZ id ar.l,eg ι id,e1,rfl,e4.bZ (Nat.le_of_ble_eq_true htg) e3 rfl,?_⟩;exact e5.bZ (fun b hb=>ji b hb) (fun i hi=>eQ _ hi) (fun A n c hi=>e4.qJ (Nat.le_of_ble_eq_true htg) e3 A n c hi _)
open Classical in
noncomputable def both{α:Type}(c:Bool)(x y:Option α):Option α:=if c=true then (if x=y then x else none) else y
theorem Xm{α:Type}{c:Bool}{x y:Option α}{r:α}(hc:c=true)(h:both c x y=some r):x=some r:=by
 unfold both at h;rw[if_pos hc]at h;split at h
 ·exact h
 ·cases h
theorem Tq{α:Type}{c:Bool}{x y:Option α}{r:α}(h:both c x y=some r):y=some r:=by
 unfold both at h;split at h
 ·split at h
  ·rename_i e;rw[←e];exact h
  ·cases h
 ·exact h
section
variable{cx:Cx}{Q:Exit→Act→World→Prop}{ks:List aq}{s:AS}
def JK:BinOp→Bool
 | .eql|.neq=>true
 | _=>false
def rY:BinOp→Bool
 | .neq=>true
 | _=>false
theorem Yv{all:Array Oper}{l r:List Oper}(o:Oper)(op:BinOp)(T T':TypeId)(x y:Operand)(d:Nat)(L:List (List AV)){e:TypeId}(hl:l=o::r)(hg:cw all s o=true)(hop:o.op=.binOp op T x y T')(hd:o.dst=some d)(hn:Nat.ble (d+1) cx.n=true)
  (hx:s.ev x=some (.sl L)) (hy:s.ev y=some .nils) (hu:((JK op&&(match cx.P.underlying T with|some (.slice _)=>true|_=>false))=true)) (ka:L=[]→OT cx Q ks all r (s.put (some d) (.bool (!rY op)))) (kb:OT cx Q ks all r (s.put (some d) (.bool (rY op)))):OT cx Q ks all l s:=by
 subst hl;have hdn:d<cx.n:=Nat.le_of_ble_eq_true hn;have key:∀(o:Oper),o.guard=none→o.op=.binOp op T x y T'→o.dst=some d→OT cx Q ks all (o::r) s:=by
  intro o hg hop hd a w ι hs;refine wpList_plain hg fun K hK=>?_;unfold Oper.wp;simp only[Bool.and_eq_true]at hu;obtain⟨hop2,hu⟩:=hu;split at hu
  case h_2=>cases hu
  rename_i et hut;have hxr:=hs.ev hx;have hyr:=hs.ev hy;have hye:a.eval y=.slice none 0 0:=by cases h':a.eval y<;>rw[h']at hyr<;>cases hyr;rfl
  have run:∀(A:Option Addr) (n c:Nat),a.eval x=.slice A n c→(execOp a.eval o).run cx.P w=.ok (.value (.bool (if A.isNone=true then !rY op else rY op))) w:=by
   intro A n c hA;have e1:∀{q:BinOp},q=.eql∨q=.neq→(eqGuard q T x y (.slice A n c) (.slice none 0 0)).run cx.P w=.ok () w:=by
    intro q hq;rcases hq with rfl|rfl<;>simp[eqGuard]
   have e2:(Op.equalIn 10000 T (.slice A n c) (.slice none 0 0)).run cx.P w=.ok A.isNone w:=by
    unfold Op.equalIn;rw[Sem.run_bind,run_underlying hut w];cases A<;>rfl
   unfold execOp;rw[hop];simp only[hA,hye,Sem.run_bind];cases op<;>simp[JK]at hop2
   ·have e3:binOp .eql T (.slice A n c) (.slice none 0 0)=(do pure (.bool (← Op.equalIn 10000 T (.slice A n c) (.slice none 0 0)))):=rfl;rw[e1 (.inl rfl),e3];simp only[Result.andThen_ok,Sem.run_bind,e2,Sem.run_pure,rY];cases A<;>rfl
   ·have e3:binOp .neq T (.slice A n c) (.slice none 0 0)=(do pure (.bool (!(← Op.equalIn 10000 T (.slice A n c) (.slice none 0 0))))):=rfl;rw[e1 (.inr rfl),e3];simp only[Result.andThen_ok,Sem.run_bind,e2,Sem.run_pure,rY];cases A<;>rfl
  have fin:∀b,OT cx Q ks all r (s.put (some d) (.bool b))→(execOp a.eval o).run cx.P w=.ok (.value (.bool b)) w→wpList cx.P all (Kw cx.P Q ks) r (a.put o.dst (.bool b)) w:=fun b hk _=>by
   rw[hd];exact hk _ _ _ (hs.put (fun k hk=>by injection hk with hk;subst hk;exact hdn) (.bool _ _))
  generalize hX:a.eval x=X at hxr;cases hxr with
  | sl0 _ A c =>
   have hr:=run A 0 c hX;rw[hr];cases A with
   | none=>exact hK _ _ (fin _ (by simpa using ka rfl) hr)
   | some _=>exact hK _ _ (fin _ (by simpa using kb) hr)
  | sl _ _ b o c sz val hz hb hN h1 hc hr hcap =>
   have hrr:=run _ _ _ hX;rw[hrr];exact hK _ _ (fin _ (by simpa using kb) hrr)
 unfold cw at hg;split at hg
 ·rename_i h0;exact key o h0 hop hd
 ·rename_i j b h0;split at hg
  ·rename_i v hv0;obtain⟨og,d',g1,g2,g3⟩:=l3 hv0;have hb:v=b:=by cases v<;>cases b<;>simp at hg⊢
   subst hb;exact rJ h0 g1 g2 g3 (key { o with guard:=none } rfl hop hd)
  ·cases hg
end
def bi(k:IntKind)(x:Int):List AV:=[.int k x]
def OC(x:Bool):List AV:=[.bool x]
def Wo(x:ByteArray):List AV:=[.str x]
def B4{α:Type}(f:α→List AV)(x:List α):List AV:=[.sl (x.map f)]
structure V1(α:Type) where
 a0:α
structure V2(α:Type) where
 a0:α
 a1:α
structure V4(α:Type) where
 a0:α
 a1:α
 a2:α
 a3:α
instance{α:Type}[Inhabited α]:Inhabited (V2 α):=⟨⟨default,default⟩⟩
instance{α:Type}[Inhabited α]:Inhabited (V4 α):=⟨⟨default,default,default,default⟩⟩
def GP{α:Type}(f:α→List AV)(x:V4 α):List AV:=f x.a0++(f x.a1++(f x.a2++f x.a3))
end Go.Proofs.YtnpmlepplfaijaaGreat

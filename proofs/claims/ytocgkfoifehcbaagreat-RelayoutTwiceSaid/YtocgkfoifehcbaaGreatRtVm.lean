/- Batches of steps on abstract states by computation; loops by fuel; rules for lists of structs. No program in sight. -/
import Derived.Test.YtocgkfoifehcbaaGreatRtAdrw
namespace Go.Proofs.YtocgkfoifehcbaaGreat
set_option linter.all false
open Go.RowKit
def IT:=@List.map_append
def alE:=@List.map_drop
def alO:=@Nat.beq_refl
def al7:=@and_self
def pq:Code→ed→Code
 | c,[]=>c
 | .seq a _,0::p=>pq a p
 | .seq _ b,_::p=>pq b p
 | .cond _ a _,0::p=>pq a p
 | .cond _ _ b,_::p=>pq b p
 | .block _ c,_::p=>pq c p
 | .loop c,_::p=>pq c p
 | c,_::_=>c
def cat(f:Func)(p:ed):Code:=match f.body with|some c=>pq c p|none=>.skip
def opsOf:Code→Array Oper
 | .region _ ops _=>ops
 | _ => #[]
def dg(f:Func)(p:ed):Array Oper:=opsOf (cat f p)
def aW(f:Func)(p:ed)(k:Nat):Oper:=((dg f p).toList.drop k).headD default
def aR(f:Func)(p:ed)(k:Nat):List Oper:=(dg f p).toList.drop k
def rO(a:Array Oper)(s:AS)(j:Nat):Option Bool :=
 match a.toList[j]? with
 | some b=>match b.dst with
  | some d=>match look d s.t with
   | some (.bool v)=>some v
   | _=>none
  | none=>none
 | none=>none
def w4(n:Nat)(s:AS)(o:Oper):Option AS:=match cQ n o.dst with|true=>some (s.put o.dst (.tup []))|false=>none
def DU(a:Array Oper)(s:AS)(j:Nat):Bool :=
 match a.toList[j]? with
 | some b=>match b.dst with
  | some d=>match look d s.t with
   | some (.tup [])=>true
   | _=>false
  | none=>false
 | none=>false
theorem P9{a}{s}{j}(h:DU a s j=true):∃b d,a.toList[j]?=some b∧b.dst=some d∧look d s.t=some (.tup []):=by
 grind[DU]
def nk(P:Program)(n:Nat)(a:Array Oper)(s:AS)(o:Oper):Option AS :=
 match o.guard with
 | none=>ca P n s o
 | some (j,b)=>match rO a s j with
  | some true=>match b with|true=>ca P n s { o with guard:=none }|false=>w4 n s o
  | some false=>match b with|false=>ca P n s { o with guard:=none }|true=>w4 n s o
  | none=>match DU a s j with|true=>w4 n s o|false=>none
def nJ(P:Program)(n:Nat)(a:Array Oper):Nat→List Oper→AS→Option (List Oper×AS)
 | 0,l,s=>some (l,s)
 | _+1,[],s=>some ([],s)
 | k+1,o::r,s=>match nk P n a s o with
  | some s'=>nJ P n a k r s'
  | none=>none
theorem oL{a}{s}{j}{v}(h:rO a s j=some v):∃b d,a.toList[j]?=some b∧b.dst=some d∧look d s.t=some (.bool v):=by
 grind[rO]
section
variable{B:Cx}{Q:Exit→Act→World→Prop}{C:dt}{s:AS}
theorem Ez{c:Array Oper}{o m:Oper}{r:List Oper}{s':AS}{j d:Nat}{b:Bool}{v:AV}(q:o.guard=some (j,b))(t:c.toList[j]?=some m)(p:m.dst=some d)(y:look d s.t=some v)(h:v=.bool (!b)∨v=.tup [])(e:w4 B.n s o=some s')(k:OT B Q C c r s'):OT B Q C c (o::r) s:=fun a w ι n=>by
 obtain⟨x,l,u⟩:=n.tmp d _ y;have g:c[j]?=some m:=by simpa using t
 have z:¬ Region.wanted o (yielded c a.tmps)=true:=by
  rcases h with rfl|rfl<;>cases u<;>cases b<;>simp[Region.wanted,q,yielded,g,p,l]
 unfold wpList;rw[kc z];unfold w4 at e;split at e
 ·rename_i f;injection e with e;subst e
  exact k _ _ _ (n.put (f8 f) (.tup _ _ [] rfl (fun i x v l _=>by simp at l)))
 ·cases e
theorem OC{a:Array Oper}{o:Oper}{r:List Oper}{s':AS}(h:nk B.P B.n a s o=some s')(k:OT B Q C a r s'):OT B Q C a (o::r) s:=by
 unfold nk at h;split at h
 ·rename_i c;exact Kd c h k
 ·rename_i j b c;split at h
  ·rename_i i;obtain⟨l,d,e,f,g⟩:=oL i;cases b with
   | true=>exact un c e f g (Kd rfl h k)
   | false=>exact Ez c e f g (.inl rfl) h k
  ·rename_i i;obtain⟨l,d,e,f,g⟩:=oL i
   grind[un,Kd,Ez]
  grind[P9,Ez]
theorem zU{a}:∀k l s {l'} {s'},nJ B.P B.n a k l s=some (l',s')→OT B Q C a l' s'→OT B Q C a l s
 | 0,l,s,l',s',h,b=>by grind[nJ]
 | k+1,[],s,l',s',h,b=>by grind[nJ]
 | k+1,o::r,s,l',s',h,b=>by
  unfold nJ at h;split at h
  ·rename_i d c;exact OC c (zU k r d h b)
  grind
theorem Ye{a}{l r}{s'} o(b:l=o::r)(h:nk B.P B.n a s o=some s')(k:OT B Q C a r s'):OT B Q C a l s:=b ▸ OC h k
end
theorem Zj{P}{n}{a}{s s'}{o}(b:o.guard=none)(h:ca P n s o=some s'):nk P n a s o=some s':=by
 grind[nk]
theorem aiN{P}{n}{a}{s s'}{o}{j}{b}(c:o.guard=some (j,b))(d:rO a s j=some b)(h:ca P n s { o with guard:=none }=some s'):nk P n a s o=some s':=by
 grind[nk]
def cE(a:Array Oper)(s:AS)(o:Oper):Bool:=match o.guard with
 | none=>true
 | some (j,b)=>match rO a s j with
  | some v=>(match v,b with|true,true=>true|false,false=>true|_,_=>false)
  | none=>false
theorem VJ{P}{n}{a}{s s'}{o}(c:cE a s o=true)(h:ca P n s o=some s'):nk P n a s o=some s':=by
 unfold cE at c;split at c
 ·grind[Zj]
 ·rename_i j b d;split at c
  ·refine aiN d (b:=b) ?_ h
   grind
  grind
def GC(P:Program)(n:Nat):dt→Exit→AS→Option (dt×Exit×AS)
 | .c .skip::C,.normal,s=>some (C,.normal,s)
 | .c (.seq x y)::C,.normal,s=>some (.c x :: .c y::C,.normal,s)
 | .c (.block id c)::C,.normal,s=>some (.c c :: .b id::C,.normal,s)
 | .b _::C,.normal,s=>some (C,.normal,s)
 | .c (.exit id)::C,.normal,s=>some (C,.exit id,s)
 | .c .ret::C,.normal,s=>some (C,.ret,s)
 | .c (.cond c x y)::C,.normal,s=>match s.ev c with
  | some (.bool true)=>some (.c x::C,.normal,s)
  | some (.bool false)=>some (.c y::C,.normal,s)
  | _=>none
 | .c (.region _ ops false)::C,.normal,s=>match nJ P n ops 10000 ops.toList s with
  | some ([],s')=>some (C,.normal,s')
  | _=>none
 | .c _::C,.exit id,s=>some (C,.exit id,s)
 | .l _::C,.exit id,s=>some (C,.exit id,s)
 | .b a::C,.exit id,s=>match Nat.beq id a with
  | true=>some (C,.normal,s)
  | false=>some (C,.exit id,s)
 | .c _::C,.ret,s=>some (C,.ret,s)
 | .l _::C,.ret,s=>some (C,.ret,s)
 | .b _::C,.ret,s=>some (C,.ret,s)
 | _,_,_=>none
def qP(P:Program)(n:Nat):Nat→dt→Exit→AS→Option (dt×Exit×AS)
 | 0,C,e,s=>some (C,e,s)
 | k+1,C,e,s=>match GC P n C e s with
  | some (ks',a,s')=>qP P n k ks' a s'
  | none=>none
theorem ahw{B:Cx}{Q:Exit→Act→World→Prop}{C:dt}{e:Exit}{s:AS}{ks':dt}{d:Exit}{s':AS}(h:GC B.P B.n C e s=some (ks',d,s'))(a:VE B Q ks' d s'):VE B Q C e s:=by
 unfold GC at h;split at h
 case h_7 =>
  split at h
  ·rename_i c;simp only[u5,zt]at h;obtain⟨rfl,rfl,rfl⟩:=h;exact acG c a
  ·rename_i c;simp only[u5,zt]at h;obtain⟨rfl,rfl,rfl⟩:=h;exact abF c a
  ·cases h
 case h_8 =>
  split at h
  ·rename_i f;simp only[u5,zt]at h;obtain⟨rfl,rfl,rfl⟩:=h;exact K2 (zU _ _ _ f (UZ a))
  ·cases h
 case h_11 =>
  split at h
  ·rename_i b;have:=n3 b;simp only[u5,zt]at h;obtain⟨rfl,rfl,rfl⟩:=h;subst this;exact Yp a
  ·rename_i b;simp only[u5,zt]at h;obtain⟨rfl,rfl,rfl⟩:=h;exact Yw (fun e=>by subst e;rw[alO]at b;cases b) a
 all_goals (first|(simp only[u5,zt]at h;obtain⟨rfl,rfl,rfl⟩:=h;first|exact Xo a|exact ah4 a|exact af9 a|exact WO a|exact ajw a|exact ady a|grind|exact ajG a|grind|exact aak a|exact agy a)|grind)
theorem F2{B}{Q}:∀k C e s {ks'} {a} {s'},qP B.P B.n k C e s=some (ks',a,s')→VE B Q ks' a s'→VE B Q C e s:=by
 intro k
 induction k with
 | zero =>
  grind[qP]
 | succ k b =>
  grind[qP,ahw]
def lD{α}(l:List (Nat×α)):ed→Option (List (Nat×α))
 | []=>some []
 | k::r=>match look k l,lD l r with|some v,some m=>some ((k,v)::m)|_,_=>none
def BK(u:ed):il→Bool
 | []=>true
 | (_,v)::r=>v.di u&&BK u r
def Bk(u:ed):iF→Bool
 | []=>true
 | (k,v)::r=>dZ u v&&u.contains k&&Bk u r
def Ed(u:ed):List (Nat×cg)→Bool
 | []=>true
 | (k,_)::r=>u.contains k&&Ed u r
def pins:ed→ed
 | []=>[]
 | k::r=>match Nat.ble 1000000 k with
  | true=>k::(k-1000000)::pins r
  | false=>pins r
theorem LV:∀{u:ed} {id:Nat},u.contains (de id)=true→(pins u).contains (de id)=true∧(pins u).contains id=true
 | [],_,h=>by cases h
 | k::r,id,h=>by
  simp only[List.contains_cons,IF,ajK]at h;unfold pins;rcases h with h|h
  ·subst h;have:Nat.ble 1000000 (de id)=true:=by unfold de;simp
   rw[this];simp[de]
  ·have a:=LV h
   grind
def vy:il→ed
 | []=>[]
 | (_,.sit id _ _ _)::r=>id::vy r
 | _::r=>vy r
def AS.pick(s:AS)(ts a rs:ed):Option AS :=
 match lD s.t ts,lD s.o a,lD s.r rs with
 | some t,some o,some r=>if (BK (a++rs++(vy t++pins s.u)) t&&Bk (a++rs++(vy t++pins s.u)) o&&Ed (a++rs++(vy t++pins s.u)) r)=true then some ⟨t,o,r,a++rs++(vy t++pins s.u)⟩ else none
 | _,_,_=>none
theorem SF{u}{l}:∀{C} {m},lD l C=some m→BK u m=true→Cj u l m
 | [],m,h,_=>by injection h with h;subst h;trivial
 | k::r,m,h,a=>by
  unfold lD at h;split at h
  ·rename_i v d b c;injection h with h;subst h
   simp only[BK,iO]at a;exact⟨b,a.1,SF c a.2⟩
  grind
theorem QD{u}{l}:∀{C} {m},lD l C=some m→Bk u m=true→Dr u l m
 | [],m,h,_=>by injection h with h;subst h;trivial
 | k::r,m,h,a=>by
  unfold lD at h;split at h
  ·rename_i v d b c;injection h with h;subst h
   simp only[Bk,iO]at a;exact⟨b,a.1.1,a.1.2,QD c a.2⟩
  grind
theorem QF{u}{l}:∀{C} {m},lD l C=some m→Ed u m=true→Dg u l m
 | [],m,h,_=>by injection h with h;subst h;trivial
 | k::r,m,h,a=>by
  unfold lD at h;split at h
  ·rename_i v d b c;injection h with h;subst h
   simp only[Ed,iO]at a;exact⟨b,a.1,QF c a.2⟩
  grind
theorem R9{s s'}{ts f rs}(h:s.pick ts f rs=some s'):Sub s' s:=by
 unfold AS.pick at h;split at h
 ·rename_i t o r b c d;split at h
  ·rename_i a;injection h with h;subst h
   simp only[iO]at a;refine⟨SF b a.1.1,QD c a.1.2,QF d a.2,fun id e=>?_⟩
   grind[LV]
  grind
 grind
section
variable{B:Cx}{Q:Exit→Act→World→Prop}{C:dt}{s:AS}
def Ea(P:Program)(n k:Nat)(ts c rs:ed)(C:dt)(e:Exit)(s:AS):Option (dt×Exit×AS) :=
 match qP P n k C e s with
 | some (ks',b,s')=>match s'.pick ts c rs with|some a=>some (ks',b,a)|none=>none
 | none=>none
theorem PM{e a}{ks'}{s'} k ts f rs(h:Ea B.P B.n k ts f rs C e s=some (ks',a,s'))(d:VE B Q ks' a s'):VE B Q C e s:=by
 unfold Ea at h;split at h
 ·rename_i i g j b;split at h
  ·rename_i l c;simp only[u5]at h;obtain⟨rfl,rfl,rfl⟩:=h;exact F2 _ _ _ _ b (Vt _ (R9 c) d)
  grind
 grind
theorem aV.Mg{a:Act}{w:World}{ι:Env}(h:aV B s a w ι){k}{v v'}(d:look k s.t=some v)(c:v=v'):aV B { s with t:=bi k v' s.t } a w ι:=by
 subst c;refine⟨⟨h.hs.below,h.hs.old,h.hs.use,h.hs.own,h.hs.inj,h.hs.ko,h.hs.kr,h.hs.objs,h.hs.arrs,h.hs.pin⟩,h.dfr,h.n,fun j y b=>?_⟩;simp only[cq]at b;by_cases e:j=k
 ·subst e;rw[ll rfl]at b;injection b with b;subst b;exact h.tmp j v d
 ·rw[kc e]at b;exact h.tmp j y b
theorem aeX{e} k{v v'}{b}(g:look k s.t=some v)(c:v=v')(f:bi k v' s.t=b)(h:VE B Q C e { s with t:=b }):VE B Q C e s:=fun a w ι d=>h a w ι (f ▸ d.Mg g c)
theorem Et{b}{l} k{v v'}{c}(g:look k s.t=some v)(d:v=v')(f:bi k v' s.t=c)(h:OT B Q C b l { s with t:=c }):OT B Q C b l s:=fun a w ι e=>h a w ι (f ▸ e.Mg g d)
theorem aiS{e}{s'}(a:s=s')(h:VE B Q C e s'):VE B Q C e s:=a ▸ h
def LP(B:Cx)(Q:Exit→Act→World→Prop)(C:dt)(c:Code)(m:Nat)(s:AS):Prop:=∀a w ι,aV B s a w ι→Code.rounds B.P c (Kw B.P Q C) m a w
abbrev kl(B:Cx)(Q:Exit→Act→World→Prop)(C:dt)(c:Code)(m:Nat):aq:=.l (Code.rounds B.P c (Kw B.P Q C) m)
theorem oE{c b} m(d:b=.loop c)(h:LP B Q C c m s):VE B Q (.c b::C) .normal s:=by
 subst d;exact fun a w ι e=>wp_loop_rounds m (h a w ι e)
theorem bn{c}{m}(h:VE B Q (.c c::kl B Q C c m::C) .normal s):LP B Q C c (m+1) s:=fun a w ι b=>h a w ι b
theorem bq{c}{m}(h:LP B Q C c m s):VE B Q (kl B Q C c m::C) .normal s:=fun a w ι b=>h a w ι b
end
theorem am{α:Type}{c}{x y:Option α}{r}(h:(if c=true then x else y)=some r):(c=true∧x=some r)∨(c=false∧y=some r):=by
 grind
def aE{α:Type}(c:Bool)(x:Option α):Option α:=match c with|true=>x|false=>none
theorem aD{α}{c}{x:Option α}{r}(h:aE c x=some r):c=true∧x=some r:=by
 cases c
 ·cases h
 ·exact⟨rfl,h⟩
theorem bind_some{α β:Type}{x}{k:α→Option β}{r}(h:x.bind k=some r):∃y,x=some y∧k y=some r:=by
 cases x with
 | none=>grind
 | some y=>grind
def aa(n:Int):Int:=IntKind.wrap .i64 n
theorem Hu{α β:Type}(f:α→β)(L:List α) d{j}(h:j<L.length):(L.map f)[j]?=some (f (L.getD j d)):=by
 grind
def aM(i:Int)(n:Nat):Bool:=decide (0≤i)&&decide (i<n)
theorem bD{i}{n}(h:aM i n=true):0≤i∧i.toNat<n:=by
 grind[aM]
section
variable{P:Program}{n:Nat}{s:AS}{o:Oper}{α:Type}[Inhabited α]
theorem ag4(enc b:α→c6)(L:List α)(i:Int)(T:TypeId)(x y:Operand)(d:Nat){sz:Nat}{e:TypeId}{kd:IntKind}(f:o.op=.indexAddr T x y)(g:o.dst=some d)(p:Nat.ble (d+1) n=true)(r:s.ev x=some (.sl (L.map enc)))(t:s.ev y=some (.int kd i))
  (k:oO P T=none) (q:gA P T=some (e,sz)) (l:aM i L.length=true) (u:∀a,(enc a).length=sz) (m:∀a,enc a=b a):ca P n s o=some (s.put (some d) (.cptr (b (L.getD i.toNat default)))):=by
 obtain⟨h,j⟩:=bD l;have c:d<n:=j3 p;unfold ca;rw[ll (by rw[g];simpa[cQ]using c)];simp only[f,r,t,wh,xD,ll h,k,q,Hu enc L default j,g,ll (u _)];rw[m]
theorem ahv enc(L:List α) T x(d:Nat){e}(c:o.op=.call ⟨.builtin .len,#[x],#[T]⟩)(f:o.dst=some d)(b:Nat.ble (d+1) n=true)(h:s.ev x=some (.sl (L.map enc)))
  (g:gA P T=some e):ca P n s o=some (s.put (some d) (.int .i64 L.length)):=by
 have a:d<n:=j3 b
 grind[ca,cQ,oU,zZ]
theorem aaj(enc:α→c6)(L:List α)(T:TypeId)(x:Operand)(d:Nat){id sz:Nat}{e:TypeId×Nat}{et:TypeId}(c:o.op=.call ⟨.builtin .len,#[x],#[T]⟩)(f:o.dst=some d)(b:Nat.ble (d+1) n=true)(i:s.ev x=some (.ref id))(g:look id s.r=some ⟨et,sz,L.map enc⟩)
  (h:gA P T=some e):ca P n s o=some (s.put (some d) (.int .i64 L.length)):=by
 have a:d<n:=j3 b;unfold ca
 grind[cQ,oU,zZ]
theorem ad9(enc:α→c6)(L:List α)(i:Int)(T:TypeId)(x y:Operand)(d:Nat){id sz:Nat}{e et:TypeId}{kd:IntKind}(b:o.op=.indexAddr T x y)(c:o.dst=some d)(k:Nat.ble (d+1) n=true)(p:s.ev x=some (.ref id))(q:s.ev y=some (.int kd i))
  (l:look id s.r=some ⟨et,sz,L.map enc⟩) (h:oO P T=none) (m:gA P T=some (e,sz)) (j:aM i L.length=true):ca P n s o=some (s.put (some d) (.eptr id sz i.toNat 0)):=by
 obtain⟨f,g⟩:=bD j;have a:d<n:=j3 k;unfold ca;rw[ll (by rw[c];simpa[cQ]using a)];simp only[b,p,q,wh,xD,ll f,h,m,l,c,nx,g,al7,AT]
theorem abV(enc b:α→c6)(L:List α)(T:TypeId)(x:Operand)(d:Nat){id sz j off:Nat}{et:TypeId}{v:AV}(f:id<TG)(e:o.op=.load T x)(g:o.dst=some d)(l:Nat.ble (d+1) n=true)(p:s.ev x=some (.eptr id sz j off))
  (m:look id s.r=some ⟨et,sz,L.map enc⟩) (k:j<L.length) (i:∀a,enc a=b a) (h:iL P T ((b (L.getD j default)).drop off)=some v):ca P n s o=some (s.put (some d) v):=by
 have c:d<n:=j3 l;rw[←i]at h;unfold ca;rw[ll (by rw[g];simpa[cQ]using c)];simp only[f,e,p,mB,AS.mem,m,AT,Hu enc L default k,g,h]
theorem Xi(enc b:α→c6)(L:List α)(new:α)(T:TypeId)(x y:Operand){id sz j off:Nat}{et:TypeId}{v:AV}{d:c6}(e:o.op=.store T x y)(g:o.dst=none)(q:s.ev x=some (.eptr id sz j off))(t:s.ev y=some v)
  (l:look id s.r=some ⟨et,sz,L.map enc⟩) (i:j<L.length) (p:j0 v=some d) (u:cy P T=some d.length) (h:∀a,enc a=b a) (k:Nat.ble (off+d.length) (b (L.getD j default)).length=true) (m:dZ [] d=true) (f:jb off d (b (L.getD j default))=b new) :
  ca P n s o=some { s with r:=bi id ⟨et,sz,(L.set j new).map enc⟩ s.r }:=by
 have c:=j3 k;rw[←h]at c f;rw[←h]at f;unfold ca;rw[ll (by rw[g];rfl)];simp only[e,g,q,t,rI,l,p,Hu enc L default i,u,c,m,al7,AT,f,List.map_set]
def fits(n bytes:Nat):Bool:=decide (n≤maxLen)&&decide (n*bytes≤140737488355328)
theorem ajd{n b}(h:fits n b=true):n≤maxLen∧n*b≤140737488355328:=by grind[fits]
theorem L8(enc:α→c6)(M:List α){sz}(b:∀a,(enc a).length=sz):(M.map enc).all (fun e=>e.length == sz)=true:=by
 grind
theorem aeM(enc:α→c6)(L M:List α)(T:TypeId)(x y:Operand)(d:Nat){id sz bytes:Nat}{et:TypeId}{new:h7}{i:il}{h:iF}(f:o.op=.call ⟨.builtin .append,#[x,y],#[T,T]⟩)(g:o.dst=some d)(q:Nat.ble (d+1) n=true)
  (z:s.ev x=some (.ref id)) (A:s.ev y=some (.sl new)) (b:new=M.map enc) (v:look id s.r=some ⟨et,sz,L.map enc⟩) (w:jg P T=some (et,sz,bytes)) (B:∀a,(enc a).length=sz) (p:fits (L.length+M.length) bytes=true) (e:s.u.contains (de id)=false)
  (l:dA id s.t=i) (m:eN id s.o=h):ca P n s o=some { t:=bi d (.ref id) i,o:=h,r:=bi id ⟨et,sz,(L++M).map enc⟩ s.r,u:=s.u }:=by
 have c:d<n:=j3 q;obtain⟨j,k⟩:=ajd p;subst b;unfold ca;rw[ll (by rw[g];simpa[cQ]using c)];simp only[f,g,z,A,AT,AL,w,oP,L8 enc M B,v,e,nx,j,k,al7,l,m,IT]
theorem ajQ T T' x y(d:Nat){k}{a b}(f:o.op=.binOp .quo T x y T')(h:o.dst=some d)(e:Nat.ble (d+1) n=true)(i:s.ev x=some (.int k a))(j:s.ev y=some (.int k b))(g:(b != 0)=true):ca P n s o=some (s.put (some d) (.int k (k.wrap (a.tdiv b)))):=by
 have c:d<n:=j3 e
 grind[ca,cQ,tN]
theorem Yg(T T':TypeId)(x y:Operand)(d:Nat){k:IntKind}{a b:Int}(f:o.op=.binOp .rem T x y T')(g:o.dst=some d)(i:Nat.ble (d+1) n=true)(j:s.ev x=some (.int k a))(l:s.ev y=some (.int k b))(h:(b != 0)=true):ca P n s o=some (s.put (some d) (.int k (a.tmod b))):=by
 have e:d<n:=j3 i;have c:¬ b=0:=by simpa using h
 unfold ca;rw[ll (by rw[g];simpa[cQ]using e)];simp only[f,j,l,tN,c,al7,AT,g,not_false_eq_true]
theorem acN(T T':TypeId)(x y:Operand)(d:Nat){a b:ByteArray}(f:o.op=.binOp .add T x y T')(h:o.dst=some d)(e:Nat.ble (d+1) n=true)(i:s.ev x=some (.str a))(j:s.ev y=some (.str b))(g:wx a b=true):ca P n s o=some (s.put (some d) (.str (a++b))):=by
 have c:d<n:=j3 e;unfold ca
 grind[cQ,tN,kt,JG]
def cC(a b:Int)(n:Nat):Bool:=decide (0≤a)&&(decide (a≤b)&&decide (b≤n))
theorem i7(enc:α→c6)(L:List α)(a b:Int)(T:TypeId)(x:Operand)(lo l:Option Operand)(d:Nat){e:TypeId}{sz:Nat}(i:o.op=.slice T x lo l none)(j:o.dst=some d)(p:Nat.ble (d+1) n=true)(r:s.ev x=some (.sl (L.map enc)))
  (q:P.underlying T=some (.slice e)) (t:cy P e=some sz) (f:∀c,(enc c).length=sz) (m:∀k,k=L.length→kE s k lo l=some (a,b)) (g:cC a b L.length=true):ca P n s o=some (s.put (some d) (.sl ((List.drop a.toNat (List.take b.toNat L)).map enc))):=by
 have h:d<n:=j3 p;simp only[cC,iO,q7]at g;unfold ca;rw[ll (by rw[j];simpa[cQ]using h)];simp only[i,kt,r,q,t,L8 enc L f,AT,jX,nx,m L.length rfl,g.1,g.2.1,g.2.2,al7,j];rw[alE,List.map_take]
end
theorem UB{P:Program}{n:Nat}{s:AS}{o:Oper}{α:Type}(enc:α→c6)(L:List α)(a b:Int)(T:TypeId)(x:Operand)(lo i:Option Operand)(d:Nat){id e sz:Nat}{et:TypeId}(g:o.op=.slice T x lo i none)(h:o.dst=some d)(l:Nat.ble (d+1) n=true)(q:s.ev x=some (.ref id))
  (m:look id s.r=some ⟨et,sz,L.map enc⟩) (p:P.underlying T=some (.slice e)) (r:cy P e=some sz) (j:∀k,k=L.length→kE s k lo i=some (a,b)) (c:cC a b L.length=true):ca P n s o=some (s.put (some d) (.sref id sz a.toNat (b.toNat-a.toNat))):=by
 have f:d<n:=j3 l;simp only[cC,iO,q7]at c;unfold ca;rw[ll (by rw[h];simpa[cQ]using f)];simp only[g,kt,q,p,r,m,AT,jX,nx,j L.length rfl,c.1,c.2.1,c.2.2,al7,h]
theorem iK{α:Type}{L:List α}{i j}{x}(h:j<L.length):j<(L.set i x).length:=by grind
section
variable{B:Cx}{Q:Exit→Act→World→Prop}{C:dt}{s:AS}
theorem XE{e} k{b a}(c:b=a)(d:look k s.t=some (.bool b))(h:VE B Q C e { s with t:=bi k (.bool a) s.t }):VE B Q C e s :=by grind[aeX]
theorem Xm{a}{l} k{b c}(d:b=c)(e:look k s.t=some (.bool b))(h:OT B Q C a l { s with t:=bi k (.bool c) s.t }):OT B Q C a l s :=by grind[Et]
theorem aV.pzo{a:Act}{w:World}{ι:Env}(h:aV B s a w ι){k}{cs}(f:look k s.o=some cs):aV B { s with o:=bi k (cs.map iX) s.o } a w ι:=by
 refine⟨⟨h.hs.below,h.hs.old,h.hs.use,h.hs.own,h.hs.inj,fun i c b=>?_,h.hs.kr,fun i c b d=>?_,h.hs.arrs,h.hs.pin⟩,h.dfr,h.n,h.tmp⟩
 ·simp only[cq]at b;by_cases e:i=k
  ·subst e;exact h.hs.ko i cs f
  ·rw[kc e]at b;exact h.hs.ko i c b
 ·simp only[cq]at b;by_cases e:i=k
  ·subst e;rw[ll rfl]at b;injection b with b;subst b
   obtain⟨g,T,vs,j,l,m⟩:=h.hs.objs i cs f d;exact⟨g,T,vs,j,l,m.pz⟩
  ·rw[kc e]at b;exact h.hs.objs i c b d
theorem ZB{e} k{cs}(c:look k s.o=some cs)(h:VE B Q C e { s with o:=bi k (cs.map iX) s.o }):VE B Q C e s:=fun a w ι b=>h a w ι (b.pzo c)
def d8(s:AS)(o:Oper):Option (FuncId×c6) :=
 match o.op with
 | .call c=>match c.callee with
  | .value a=>match s.ev a,dr s c.args.toList with
   | some (.fn f aS),some l=>match dZ [] l with
    | true=>some (f,l.map gw++aS)
    | false=>none
   | _,_=>none
  | _=>none
 | _=>none
theorem S3{b}{r} o(h:o.guard=none){f}{a}{V}(d:d8 s o=some (f,a))(g:cQ B.n o.dst=true)(c:cK B.P f=true)(e:bc B.P f a (fun v _=>v=V))(i:V.di []=true)(k:OT B Q C b r (s.put o.dst V)):OT B Q C b (o::r) s:=by
 grind[d8,ZN]
theorem Qg{c:Array Oper}{l r:List Oper}(o:Oper){f:FuncId}{a:c6}{V:AV}(x:l=o::r)(h:cE c s o=true)(p:bc B.P f a (fun v _=>v=V))(e:cK B.P f=true)(n:d8 s o=some (f,a))(g:(cQ B.n o.dst&&V.di [])=true)(k:OT B Q C c r (s.put o.dst V)):OT B Q C c l s:=by
 subst x;simp only[iO]at g;unfold cE at h;split at h
 ·rename_i i;exact S3 o i n g.1 e p g.2 k
 ·rename_i j b i;split at h
  ·rename_i v m;obtain⟨y,d,q,t,u⟩:=oL m;have w:v=b:=by cases v<;>cases b<;>simp at h⊢
   subst w;exact un i q t u (S3 { o with guard:=none } rfl n g.1 e p g.2 k)
  grind
end
section
variable{B:Cx}{Q:Exit→Act→World→Prop}{C:dt}{s:AS}
theorem U0{q:Array Oper}{r:List Oper}(o:Oper)(hg:o.guard=none){f:FuncId}{h:c6}{V:AV}(id d:Nat){ar:cg}(i:d8 s o=some (f,h))(hd:cQ B.n o.dst=true)(J:cK B.P f=true)
  (hc:bc B.P f h (fun v W=>v=V∧look id W.r=some ar)) (a0:V.di []=false) (T:has s.u d=false) (A:∀(N:Nat→Prop) w ι x,Rel N w ι V x→∃y,ι id=some y)
  (k:OT B Q C q r (({ s with r:=bi d ar s.r,u:=d::s.u }:AS).put o.dst (V.fZ id d))) (R:Nat.ble (id+1) TG=true):OT B Q C q (o::r) s:=by
 unfold d8 at i;split at i
 ·rename_i c M;split at i
  ·rename_i fo t;split at i
   ·rename_i f' aS l hf hl;split at i
    ·rename_i hu;injection i with i;injection i with X Y;subst X;subst Y
     intro a w ι p;refine abM hg fun K hK=>?_;unfold Oper.wp;obtain⟨ys,O,H,I⟩:=kT p M t hf J;rw[O,ahH];refine (hc (NN B.M ι) w _ (fun b j=>lx p.hs j) (Ab p hl hu H I)).mono ?_
     rintro e w' ⟨x,v,W,ι1,rfl,⟨rfl,m⟩,g,U⟩
     obtain⟨y,S⟩:=A _ _ _ _ U;obtain⟨P,G⟩:=p.hs.import g (j3 R) S m T;have L:=p.hs.free T;have Z:Rel (NN B.M (ext ι d y)) w' (ext ι d y) (v.fZ id d) x:=U.fZ G (fun z E=>by rw[S]at E;injection E with E;subst E;exact cO _ _ _);have D:aV B { s with r:=bi d ar s.r,u:=d::s.u } a w' (ext ι d y) :=
      p.world P rfl g.below.plain.size (fun b n j=>by
       rcases gc j with j|j
       ·exact j
       ·rcases (g.own id b (by rw[S];exact j)).1 with F|F;exact absurd n (akf.2 F);exact F.elim) (fun b n _=>g.below.plain.block b n) (fk L y)
     exact hK _ _ (k _ _ _ (D.put (f8 hd) Z))
    grind
   grind
  grind
 grind
theorem eO id:∀N w ι x,Rel N w ι (.ref id) x→∃y,ι id=some y:=by
 intro N w ι x h;cases h with|ref _ _ A n c h=>grind
theorem C3{id}{i:Nat}{cs}(b:cs[i]?=some (.ref id)):∀N w ι x,Rel N w ι (.tup cs) x→∃y,ι id=some y:=by
 intro N w ι x h;cases h with
 | tup _ _ vs d c =>
  have a:i<vs.length:=by grind
  exact eO id N w ι _ (c i _ _ b (kb a))
theorem afH{g:Array Oper}{l r:List Oper}(o:Oper)(id a:Nat){f:FuncId}{c:c6}{V V':AV}{ar:cg}(I:l=o::r)(i:cE g s o=true)(z:bc B.P f c (fun v K=>v=V∧look id K.r=some ar))(h:cK B.P f=true)
  (e:∀(N:Nat→Prop) w ι x,Rel N w ι V x→∃y,ι id=some y) (t:d8 s o=some (f,c)) (A:cQ B.n o.dst=true) (m:V.di []=false) (D:has s.u a=false) (J:V.fZ id a=V')
  (k:OT B Q C g r (({ s with r:=bi a ar s.r,u:=a::s.u }:AS).put o.dst V')) (n:Nat.ble (id+1) TG=true:=by kernel_rfl):OT B Q C g l s:=by
 subst I;subst J;unfold cE at i;split at i
 ·rename_i p;exact U0 o p id a t A h z m D e k n
 ·rename_i j b p;split at i
  ·rename_i v q;obtain⟨L,d,E,F,G⟩:=oL q;have H:v=b:=by cases v<;>cases b<;>simp at i⊢
   subst H;exact un p E F G (U0 { o with guard:=none } rfl id a t A h z m D e k n)
  ·cases i
end
theorem bc.cz{P}{f}{a}{V V'}{id}{ar}(q:bc P f a (fun v s=>v=V∧look id s.r=some ar))(r:V.cz id ar.l=V')(d:Nat.ble (id+1) TG=true:=by kernel_rfl):bc P f a (fun v _=>v=V'):=fun M w xs m o =>
 (q M w xs m o).mono fun _ _ ⟨x,v,s,ι,j,⟨k,g⟩,h,l⟩=>by
  subst k;subst r;refine⟨x,v.cz id ar.l,s.cz id ar.l,fN ι id,j,rfl,h.cz (j3 d) g rfl,?_⟩;exact l.cz (fun b p=>ky b p) (fun i e=>gl _ e) (fun A n c e=>h.sr (j3 d) g A n c e _)
open Classical in
section
variable{B:Cx}{Q:Exit→Act→World→Prop}{C:dt}{s:AS}
def yP:BinOp→Bool
 | .eql|.neq=>true
 | _=>false
def tY:BinOp→Bool
 | .neq=>true
 | _=>false
theorem Rj{f:Array Oper}{l r:List Oper}(o:Oper)(op:BinOp)(T T':TypeId)(x y:Operand)(d:Nat)(L:h7){e:TypeId}(hl:l=o::r)(i:cE f s o=true)(g:o.op=.binOp op T x y T')(E:o.dst=some d)(hn:Nat.ble (d+1) B.n=true)
  (hx:s.ev x=some (.sl L)) (hy:s.ev y=some .nils) (u:((yP op&&(match B.P.underlying T with|some (.slice _)=>true|_=>false))=true)) (ka:L=[]→OT B Q C f r (s.put (some d) (.bool (!tY op)))) (Y:OT B Q C f r (s.put (some d) (.bool (tY op)))):OT B Q C f l s:=by
 subst hl;have J:d<B.n:=j3 hn;have key:∀(o:Oper),o.guard=none→o.op=.binOp op T x y T'→o.dst=some d→OT B Q C f (o::r) s:=by
  intro o i g E a w ι M;refine abM i fun K I=>?_;unfold Oper.wp;simp only[iO]at u;obtain⟨p,u⟩:=u;split at u
  case h_2=>cases u
  rename_i et N;have z:=M.ev hx;have D:=M.ev hy;have P:a.eval y=.slice none 0 0:=by cases h':a.eval y<;>rw[h']at D<;>cases D;rfl
  have run:∀(A:Option Addr) (n c:Nat),a.eval x=.slice A n c→(execOp a.eval o).run B.P w=.ok (.value (.bool (if A.isNone=true then !tY op else tY op))) w:=by
   intro A n c hA;have R:∀{q:BinOp},q=.eql∨q=.neq→(eqGuard q T x y (.slice A n c) (.slice none 0 0)).run B.P w=.ok () w:=by
    intro q hq;rcases hq with rfl|rfl<;>simp[eqGuard]
   have S:(Op.equalIn 10000 T (.slice A n c) (.slice none 0 0)).run B.P w=.ok A.isNone w:=by
    unfold Op.equalIn;rw[u3,qk N w];cases A<;>rfl
   unfold execOp;rw[g];simp only[hA,P,u3];cases op<;>simp[yP]at p
   ·have G:binOp .eql T (.slice A n c) (.slice none 0 0)=(do pure (.bool (← Op.equalIn 10000 T (.slice A n c) (.slice none 0 0)))):=rfl;rw[R (.inl rfl),G];simp only[u6,u3,S,S2,tY];cases A<;>rfl
   ·have G:binOp .neq T (.slice A n c) (.slice none 0 0)=(do pure (.bool (!(← Op.equalIn 10000 T (.slice A n c) (.slice none 0 0))))):=rfl;rw[R (.inr rfl),G];simp only[u6,u3,S,S2,tY];cases A<;>rfl
  have h:∀b,OT B Q C f r (s.put (some d) (.bool b))→(execOp a.eval o).run B.P w=.ok (.value (.bool b)) w→wpList B.P f (Kw B.P Q C) r (a.put o.dst (.bool b)) w:=fun b m _=>by
   rw[E];exact m _ _ _ (M.put (fun k m=>by injection m with m;subst m;exact J) (.bool _ _))
  generalize U:a.eval x=X at z;cases z with
  | sl0 _ A c =>
   have F:=run A 0 c U;rw[F];cases A with
   | none=>exact I _ _ (h _ (by simpa using ka rfl) F)
   | some _=>exact I _ _ (h _ (by simpa using Y) F)
  | sl _ _ b o c sz a0 hz V hN h1 hc F W =>
   have t:=run _ _ _ U;rw[t];exact I _ _ (h _ (by simpa using Y) t)
 unfold cE at i;split at i
 ·rename_i H;exact key o H g E
 ·rename_i j b H;split at i
  ·rename_i v O;obtain⟨og,d',Z,g2,g3⟩:=oL O;have V:v=b:=by cases v<;>cases b<;>simp at i⊢
   subst V;exact un H Z g2 g3 (key { o with guard:=none } rfl g E)
  ·cases i
end
def ak(k:IntKind)(x:Int):c6:=[.int k x]
def agO(x:Bool):c6:=[.bool x]
def aad(x:ByteArray):c6:=[.str x]
def sW{α:Type}(f:α→c6)(x:List α):c6:=[.sl (x.map f)]
structure V1(α:Type) where
 a0:α
structure V2(α:Type) where
 a0:α
 a1:α
structure V4(α:Type) where
 a0:α
 a1:α
 a2:α
 a3:α
instance{α:Type}[Inhabited α]:Inhabited (V2 α):=⟨⟨default,default⟩⟩
instance{α:Type}[Inhabited α]:Inhabited (V4 α):=⟨⟨default,default,default,default⟩⟩
def AK{α:Type}(f:α→c6)(x:V2 α):c6:=f x.a0++f x.a1
def kD{α:Type}(f:α→c6)(x:V4 α):c6:=f x.a0++(f x.a1++(f x.a2++f x.a3))
end Go.Proofs.YtocgkfoifehcbaaGreat

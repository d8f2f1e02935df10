/- Batches of steps on abstract states by computation; loops by fuel; rules for lists of structs. No program in sight. -/
import Derived.Test.YtocgkfoifehcbaaGreatRkAdrw
namespace Go.Proofs.YtocgkfoifehcbaaGreat
set_option linter.all false
open Go.RowKit
def IF:=@List.map_append
def al3:=@Nat.beq_refl
def amm:=@and_self
def amn:=@List.map_drop
def pB:Code→eb→Code
 | c,[]=>c
 | .seq a _,0::p=>pB a p
 | .seq _ b,_::p=>pB b p
 | .cond _ a _,0::p=>pB a p
 | .cond _ _ b,_::p=>pB b p
 | .block _ c,_::p=>pB c p
 | .loop c,_::p=>pB c p
 | c,_::_=>c
def cat(f:Func)(p:eb):Code:=match f.body with|some c=>pB c p|none=>.skip
def opsOf:Code→Array Oper
 | .region _ ops _=>ops
 | _ => #[]
def dG(f:Func)(p:eb):Array Oper:=opsOf (cat f p)
def aW(f:Func)(p:eb)(k:Nat):Oper:=((dG f p).toList.drop k).headD default
def aV(f:Func)(p:eb)(k:Nat):List Oper:=(dG f p).toList.drop k
def u9(a:Array Oper)(s:AS)(j:Nat):Option Bool :=
 match a.toList[j]? with
 | some b=>match b.dst with
  | some d=>match look d s.t with
   | some (.bool v)=>some v
   | _=>none
  | none=>none
 | none=>none
def yF(n:Nat)(s:AS)(o:Oper):Option AS:=match cJ n o.dst with|true=>some (s.put o.dst (.tup []))|false=>none
def DN(a:Array Oper)(s:AS)(j:Nat):Bool :=
 match a.toList[j]? with
 | some b=>match b.dst with
  | some d=>match look d s.t with
   | some (.tup [])=>true
   | _=>false
  | none=>false
 | none=>false
theorem Q1{a}{s}{j}(h:DN a s j=true):∃b d,a.toList[j]?=some b∧b.dst=some d∧look d s.t=some (.tup []):=by
 grind[DN]
def ms(P:Program)(n:Nat)(a:Array Oper)(s:AS)(o:Oper):Option AS :=
 match o.guard with
 | none=>cb P n s o
 | some (j,b)=>match u9 a s j with
  | some true=>match b with|true=>cb P n s { o with guard:=none }|false=>yF n s o
  | some false=>match b with|false=>cb P n s { o with guard:=none }|true=>yF n s o
  | none=>match DN a s j with|true=>yF n s o|false=>none
def ot(P:Program)(n:Nat)(a:Array Oper):Nat→List Oper→AS→Option (List Oper×AS)
 | 0,l,s=>some (l,s)
 | _+1,[],s=>some ([],s)
 | k+1,o::r,s=>match ms P n a s o with
  | some s'=>ot P n a k r s'
  | none=>none
theorem oM{a}{s}{j}{v}(h:u9 a s j=some v):∃b d,a.toList[j]?=some b∧b.dst=some d∧look d s.t=some (.bool v):=by
 grind[u9]
section
variable{B:Cx}{Q:Exit→Act→World→Prop}{C:dt}{s:AS}
theorem Gl{c:Array Oper}{o m:Oper}{r:List Oper}{s':AS}{j d:Nat}{b:Bool}{v:AV}(q:o.guard=some (j,b))(t:c.toList[j]?=some m)(p:m.dst=some d)(y:look d s.t=some v)(h:v=.bool (!b)∨v=.tup [])(e:yF B.n s o=some s')(k:OT B Q C c r s'):OT B Q C c (o::r) s:=fun a w ι n=>by
 obtain⟨x,l,u⟩:=n.tmp d _ y;have g:c[j]?=some m:=by simpa using t
 have z:¬ Region.wanted o (yielded c a.tmps)=true:=by
  rcases h with rfl|rfl<;>cases u<;>cases b<;>simp[Region.wanted,q,yielded,g,p,l]
 unfold wpList;rw[kb z];unfold yF at e;split at e
 ·rename_i f;injection e with e;subst e
  exact k _ _ _ (n.put (fU f) (.tup _ _ [] rfl (fun i x v l _=>by simp at l)))
 ·cases e
theorem K5{a:Array Oper}{o:Oper}{r:List Oper}{s':AS}(h:ms B.P B.n a s o=some s')(k:OT B Q C a r s'):OT B Q C a (o::r) s:=by
 unfold ms at h;split at h
 ·rename_i c;exact I9 c h k
 ·rename_i j b c;split at h
  ·rename_i i;obtain⟨l,d,e,f,g⟩:=oM i;cases b with
   | true=>exact sv c e f g (I9 rfl h k)
   | false=>exact Gl c e f g (.inl rfl) h k
  ·rename_i i;obtain⟨l,d,e,f,g⟩:=oM i
   grind[sv,I9,Gl]
  grind[Q1,Gl]
theorem xl{a}:∀k l s {l'} {s'},ot B.P B.n a k l s=some (l',s')→OT B Q C a l' s'→OT B Q C a l s
 | 0,l,s,l',s',h,b=>by grind[ot]
 | k+1,[],s,l',s',h,b=>by grind[ot]
 | k+1,o::r,s,l',s',h,b=>by
  unfold ot at h;split at h
  ·rename_i d c;exact K5 c (xl k r d h b)
  grind
theorem Y1{a}{l r}{s'} o(b:l=o::r)(h:ms B.P B.n a s o=some s')(k:OT B Q C a r s'):OT B Q C a l s:=b ▸ K5 h k
end
theorem ajs{P}{n}{a}{s s'}{o}(b:o.guard=none)(h:cb P n s o=some s'):ms P n a s o=some s':=by
 grind[ms]
theorem adg{P}{n}{a}{s s'}{o}{j}{b}(c:o.guard=some (j,b))(d:u9 a s j=some b)(h:cb P n s { o with guard:=none }=some s'):ms P n a s o=some s':=by
 grind[ms]
def cH(a:Array Oper)(s:AS)(o:Oper):Bool:=match o.guard with
 | none=>true
 | some (j,b)=>match u9 a s j with
  | some v=>(match v,b with|true,true=>true|false,false=>true|_,_=>false)
  | none=>false
theorem ahP{P}{n}{a}{s s'}{o}(c:cH a s o=true)(h:cb P n s o=some s'):ms P n a s o=some s':=by
 unfold cH at c;split at c
 ·grind[ajs]
 ·rename_i j b d;split at c
  ·refine adg d (b:=b) ?_ h
   grind
  grind
def Hz(P:Program)(n:Nat):dt→Exit→AS→Option (dt×Exit×AS)
 | .c .skip::C,.normal,s=>some (C,.normal,s)
 | .c (.seq x y)::C,.normal,s=>some (.c x :: .c y::C,.normal,s)
 | .c (.block id c)::C,.normal,s=>some (.c c :: .b id::C,.normal,s)
 | .b _::C,.normal,s=>some (C,.normal,s)
 | .c (.exit id)::C,.normal,s=>some (C,.exit id,s)
 | .c .ret::C,.normal,s=>some (C,.ret,s)
 | .c (.cond c x y)::C,.normal,s=>match s.ev c with
  | some (.bool true)=>some (.c x::C,.normal,s)
  | some (.bool false)=>some (.c y::C,.normal,s)
  | _=>none
 | .c (.region _ ops false)::C,.normal,s=>match ot P n ops 10000 ops.toList s with
  | some ([],s')=>some (C,.normal,s')
  | _=>none
 | .c _::C,.exit id,s=>some (C,.exit id,s)
 | .l _::C,.exit id,s=>some (C,.exit id,s)
 | .b a::C,.exit id,s=>match Nat.beq id a with
  | true=>some (C,.normal,s)
  | false=>some (C,.exit id,s)
 | .c _::C,.ret,s=>some (C,.ret,s)
 | .l _::C,.ret,s=>some (C,.ret,s)
 | .b _::C,.ret,s=>some (C,.ret,s)
 | _,_,_=>none
def rc(P:Program)(n:Nat):Nat→dt→Exit→AS→Option (dt×Exit×AS)
 | 0,C,e,s=>some (C,e,s)
 | k+1,C,e,s=>match Hz P n C e s with
  | some (ks',a,s')=>rc P n k ks' a s'
  | none=>none
theorem aft{B:Cx}{Q:Exit→Act→World→Prop}{C:dt}{e:Exit}{s:AS}{ks':dt}{d:Exit}{s':AS}(h:Hz B.P B.n C e s=some (ks',d,s'))(a:VE B Q ks' d s'):VE B Q C e s:=by
 unfold Hz at h;split at h
 case h_7 =>
  split at h
  ·rename_i c;simp only[rv,w3]at h;obtain⟨rfl,rfl,rfl⟩:=h;exact abp c a
  ·rename_i c;simp only[rv,w3]at h;obtain⟨rfl,rfl,rfl⟩:=h;exact afj c a
  ·cases h
 case h_8 =>
  split at h
  ·rename_i f;simp only[rv,w3]at h;obtain⟨rfl,rfl,rfl⟩:=h;exact SA (xl _ _ _ f (TX a))
  ·cases h
 case h_11 =>
  split at h
  ·rename_i b;have:=mo b;simp only[rv,w3]at h;obtain⟨rfl,rfl,rfl⟩:=h;subst this;exact abj a
  ·rename_i b;simp only[rv,w3]at h;obtain⟨rfl,rfl,rfl⟩:=h;exact abG (fun e=>by subst e;rw[al3]at b;cases b) a
 all_goals (first|(simp only[rv,w3]at h;obtain⟨rfl,rfl,rfl⟩:=h;first|exact acF a|exact X1 a|exact ah9 a|exact XL a|exact adI a|exact afy a|grind|exact aaA a|grind|exact abg a|exact Xf a)|grind)
theorem JC{B}{Q}:∀k C e s {ks'} {a} {s'},rc B.P B.n k C e s=some (ks',a,s')→VE B Q ks' a s'→VE B Q C e s:=by
 intro k
 induction k with
 | zero =>
  grind[rc]
 | succ k b =>
  grind[rc,aft]
def lj{α}(l:List (Nat×α)):eb→Option (List (Nat×α))
 | []=>some []
 | k::r=>match look k l,lj l r with|some v,some m=>some ((k,v)::m)|_,_=>none
def CV(u:eb):h8→Bool
 | []=>true
 | (_,v)::r=>v.dg u&&CV u r
def DG(u:eb):io→Bool
 | []=>true
 | (k,v)::r=>dW u v&&u.contains k&&DG u r
def Dc(u:eb):List (Nat×co)→Bool
 | []=>true
 | (k,_)::r=>u.contains k&&Dc u r
def pins:eb→eb
 | []=>[]
 | k::r=>match Nat.ble 1000000 k with
  | true=>k::(k-1000000)::pins r
  | false=>pins r
theorem MH:∀{u:eb} {id:Nat},u.contains (da id)=true→(pins u).contains (da id)=true∧(pins u).contains id=true
 | [],_,h=>by cases h
 | k::r,id,h=>by
  simp only[List.contains_cons,Io,agA]at h;unfold pins;rcases h with h|h
  ·subst h;have:Nat.ble 1000000 (da id)=true:=by unfold da;simp
   rw[this];simp[da]
  ·have a:=MH h
   grind
def vk:h8→eb
 | []=>[]
 | (_,.sit id _ _ _)::r=>id::vk r
 | _::r=>vk r
def AS.pick(s:AS)(ts a rs:eb):Option AS :=
 match lj s.t ts,lj s.o a,lj s.r rs with
 | some t,some o,some r=>if (CV (a++rs++(vk t++pins s.u)) t&&DG (a++rs++(vk t++pins s.u)) o&&Dc (a++rs++(vk t++pins s.u)) r)=true then some ⟨t,o,r,a++rs++(vk t++pins s.u)⟩ else none
 | _,_,_=>none
theorem QA{u}{l}:∀{C} {m},lj l C=some m→CV u m=true→Dl u l m
 | [],m,h,_=>by injection h with h;subst h;trivial
 | k::r,m,h,a=>by
  unfold lj at h;split at h
  ·rename_i v d b c;injection h with h;subst h
   simp only[CV,iN]at a;exact⟨b,a.1,QA c a.2⟩
  grind
theorem Rx{u}{l}:∀{C} {m},lj l C=some m→DG u m=true→DS u l m
 | [],m,h,_=>by injection h with h;subst h;trivial
 | k::r,m,h,a=>by
  unfold lj at h;split at h
  ·rename_i v d b c;injection h with h;subst h
   simp only[DG,iN]at a;exact⟨b,a.1.1,a.1.2,Rx c a.2⟩
  grind
theorem Mw{u}{l}:∀{C} {m},lj l C=some m→Dc u m=true→Cg u l m
 | [],m,h,_=>by injection h with h;subst h;trivial
 | k::r,m,h,a=>by
  unfold lj at h;split at h
  ·rename_i v d b c;injection h with h;subst h
   simp only[Dc,iN]at a;exact⟨b,a.1,Mw c a.2⟩
  grind
theorem UB{s s'}{ts f rs}(h:s.pick ts f rs=some s'):Sub s' s:=by
 unfold AS.pick at h;split at h
 ·rename_i t o r b c d;split at h
  ·rename_i a;injection h with h;subst h
   simp only[iN]at a;refine⟨QA b a.1.1,Rx c a.1.2,Mw d a.2,fun id e=>?_⟩
   grind[MH]
  grind
 grind
section
variable{B:Cx}{Q:Exit→Act→World→Prop}{C:dt}{s:AS}
def DT(P:Program)(n k:Nat)(ts c rs:eb)(C:dt)(e:Exit)(s:AS):Option (dt×Exit×AS) :=
 match rc P n k C e s with
 | some (ks',b,s')=>match s'.pick ts c rs with|some a=>some (ks',b,a)|none=>none
 | none=>none
theorem Vg{e a}{ks'}{s'} k ts f rs(h:DT B.P B.n k ts f rs C e s=some (ks',a,s'))(d:VE B Q ks' a s'):VE B Q C e s:=by
 unfold DT at h;split at h
 ·rename_i i g j b;split at h
  ·rename_i l c;simp only[rv]at h;obtain⟨rfl,rfl,rfl⟩:=h;exact JC _ _ _ _ b (OX _ (UB c) d)
  grind
 grind
theorem aU.P9{a:Act}{w:World}{ι:Env}(h:aU B s a w ι){k}{v v'}(d:look k s.t=some v)(c:v=v'):aU B { s with t:=bm k v' s.t } a w ι:=by
 subst c;refine⟨⟨h.hs.below,h.hs.old,h.hs.use,h.hs.own,h.hs.inj,h.hs.ko,h.hs.kr,h.hs.objs,h.hs.arrs,h.hs.pin⟩,h.dfr,h.n,fun j y b=>?_⟩;simp only[cv]at b;by_cases e:j=k
 ·subst e;rw[lc rfl]at b;injection b with b;subst b;exact h.tmp j v d
 ·rw[kb e]at b;exact h.tmp j y b
theorem Y2{e} k{v v'}{b}(g:look k s.t=some v)(c:v=v')(f:bm k v' s.t=b)(h:VE B Q C e { s with t:=b }):VE B Q C e s:=fun a w ι d=>h a w ι (f ▸ d.P9 g c)
theorem F0{b}{l} k{v v'}{c}(g:look k s.t=some v)(d:v=v')(f:bm k v' s.t=c)(h:OT B Q C b l { s with t:=c }):OT B Q C b l s:=fun a w ι e=>h a w ι (f ▸ e.P9 g d)
theorem ajy{e}{s'}(a:s=s')(h:VE B Q C e s'):VE B Q C e s:=a ▸ h
def LP(B:Cx)(Q:Exit→Act→World→Prop)(C:dt)(c:Code)(m:Nat)(s:AS):Prop:=∀a w ι,aU B s a w ι→Code.rounds B.P c (Kw B.P Q C) m a w
abbrev kl(B:Cx)(Q:Exit→Act→World→Prop)(C:dt)(c:Code)(m:Nat):aq:=.l (Code.rounds B.P c (Kw B.P Q C) m)
theorem nf{c b} m(d:b=.loop c)(h:LP B Q C c m s):VE B Q (.c b::C) .normal s:=by
 subst d;exact fun a w ι e=>wp_loop_rounds m (h a w ι e)
theorem bh{c}{m}(h:VE B Q (.c c::kl B Q C c m::C) .normal s):LP B Q C c (m+1) s:=fun a w ι b=>h a w ι b
theorem bn{c}{m}(h:LP B Q C c m s):VE B Q (kl B Q C c m::C) .normal s:=fun a w ι b=>h a w ι b
end
theorem am{α:Type}{c}{x y:Option α}{r}(h:(if c=true then x else y)=some r):(c=true∧x=some r)∨(c=false∧y=some r):=by
 grind
def aE{α:Type}(c:Bool)(x:Option α):Option α:=match c with|true=>x|false=>none
theorem aF{α}{c}{x:Option α}{r}(h:aE c x=some r):c=true∧x=some r:=by
 cases c
 ·cases h
 ·exact⟨rfl,h⟩
theorem bind_some{α β:Type}{x}{k:α→Option β}{r}(h:x.bind k=some r):∃y,x=some y∧k y=some r:=by
 cases x with
 | none=>grind
 | some y=>grind
def aa(n:Int):Int:=IntKind.wrap .i64 n
theorem JZ{α β:Type}(f:α→β)(L:List α) d{j}(h:j<L.length):(L.map f)[j]?=some (f (L.getD j d)):=by
 grind
def aP(i:Int)(n:Nat):Bool:=decide (0≤i)&&decide (i<n)
theorem bH{i}{n}(h:aP i n=true):0≤i∧i.toNat<n:=by
 grind[aP]
section
variable{P:Program}{n:Nat}{s:AS}{o:Oper}{α:Type}[Inhabited α]
theorem Z0(enc b:α→c6)(L:List α)(i:Int)(T:TypeId)(x y:Operand)(d:Nat){sz:Nat}{e:TypeId}{kd:IntKind}(f:o.op=.indexAddr T x y)(g:o.dst=some d)(p:Nat.ble (d+1) n=true)(r:s.ev x=some (.sl (L.map enc)))(t:s.ev y=some (.int kd i))
  (k:nK P T=none) (q:gu P T=some (e,sz)) (l:aP i L.length=true) (u:∀a,(enc a).length=sz) (m:∀a,enc a=b a):cb P n s o=some (s.put (some d) (.cptr (b (L.getD i.toNat default)))):=by
 obtain⟨h,j⟩:=bH l;have c:d<n:=j3 p;unfold cb;rw[lc (by rw[g];simpa[cJ]using c)];simp only[f,r,t,tR,A8,lc h,k,q,JZ enc L default j,g,lc (u _)];rw[m]
theorem ajT enc(L:List α) T x(d:Nat){e}(c:o.op=.call ⟨.builtin .len,#[x],#[T]⟩)(f:o.dst=some d)(b:Nat.ble (d+1) n=true)(h:s.ev x=some (.sl (L.map enc)))
  (g:gu P T=some e):cb P n s o=some (s.put (some d) (.int .i64 L.length)):=by
 have a:d<n:=j3 b
 grind[cb,cJ,oI,yO]
theorem Zu(enc:α→c6)(L:List α)(T:TypeId)(x:Operand)(d:Nat){id sz:Nat}{e:TypeId×Nat}{a:TypeId}(f:o.op=.call ⟨.builtin .len,#[x],#[T]⟩)(g:o.dst=some d)(c:Nat.ble (d+1) n=true)(j:s.ev x=some (.ref id))(h:look id s.r=some ⟨a,sz,L.map enc⟩)
  (i:gu P T=some e):cb P n s o=some (s.put (some d) (.int .i64 L.length)):=by
 have b:d<n:=j3 c;unfold cb
 grind[cJ,oI,yO]
theorem aer(enc:α→c6)(L:List α)(i:Int)(T:TypeId)(x y:Operand)(d:Nat){id sz:Nat}{e f:TypeId}{kd:IntKind}(b:o.op=.indexAddr T x y)(c:o.dst=some d)(l:Nat.ble (d+1) n=true)(q:s.ev x=some (.ref id))(r:s.ev y=some (.int kd i))
  (m:look id s.r=some ⟨f,sz,L.map enc⟩) (j:nK P T=none) (p:gu P T=some (e,sz)) (k:aP i L.length=true):cb P n s o=some (s.put (some d) (.eptr id sz i.toNat 0)):=by
 obtain⟨g,h⟩:=bH k;have a:d<n:=j3 l;unfold cb;rw[lc (by rw[c];simpa[cJ]using a)];simp only[b,q,r,tR,A8,lc g,j,p,m,c,nx,h,amm,zt]
theorem XP(enc b:α→c6)(L:List α)(T:TypeId)(x:Operand)(d:Nat){id sz j off:Nat}{i:TypeId}{v:AV}(f:id<TG)(e:o.op=.load T x)(g:o.dst=some d)(m:Nat.ble (d+1) n=true)(q:s.ev x=some (.eptr id sz j off))
  (p:look id s.r=some ⟨i,sz,L.map enc⟩) (l:j<L.length) (k:∀a,enc a=b a) (h:iq P T ((b (L.getD j default)).drop off)=some v):cb P n s o=some (s.put (some d) v):=by
 have c:d<n:=j3 m;rw[←k]at h;unfold cb;rw[lc (by rw[g];simpa[cJ]using c)];simp only[f,e,q,ny,AS.mem,p,zt,JZ enc L default l,g,h]
theorem ae4(enc b:α→c6)(L:List α)(new:α)(T:TypeId)(x y:Operand){id sz j off:Nat}{g:TypeId}{v:AV}{d:c6}(e:o.op=.store T x y)(h:o.dst=none)(t:s.ev x=some (.eptr id sz j off))(u:s.ev y=some v)
  (m:look id s.r=some ⟨g,sz,L.map enc⟩) (k:j<L.length) (q:ke v=some d) (w:cC P T=some d.length) (i:∀a,enc a=b a) (l:Nat.ble (off+d.length) (b (L.getD j default)).length=true) (p:dW [] d=true) (f:ja off d (b (L.getD j default))=b new) :
  cb P n s o=some { s with r:=bm id ⟨g,sz,(L.set j new).map enc⟩ s.r }:=by
 have c:=j3 l;rw[←i]at c f;rw[←i]at f;unfold cb;rw[lc (by rw[h];rfl)];simp only[e,h,t,u,rp,m,q,JZ enc L default k,w,c,p,amm,zt,f,List.map_set]
def fits(n bytes:Nat):Bool:=decide (n≤maxLen)&&decide (n*bytes≤140737488355328)
theorem RT{n b}(h:fits n b=true):n≤maxLen∧n*b≤140737488355328:=by grind[fits]
theorem Qx(enc:α→c6)(M:List α){sz}(b:∀a,(enc a).length=sz):(M.map enc).all (fun e=>e.length == sz)=true:=by
 grind
theorem VV(enc:α→c6)(L M:List α)(T:TypeId)(x y:Operand)(d:Nat){id sz bytes:Nat}{c:TypeId}{new:hZ}{j:h8}{i:io}(g:o.op=.call ⟨.builtin .append,#[x,y],#[T,T]⟩)(h:o.dst=some d)(v:Nat.ble (d+1) n=true)
  (A:s.ev x=some (.ref id)) (B:s.ev y=some (.sl new)) (b:new=M.map enc) (w:look id s.r=some ⟨c,sz,L.map enc⟩) (z:jS P T=some (c,sz,bytes)) (C:∀a,(enc a).length=sz) (q:fits (L.length+M.length) bytes=true) (f:s.u.contains (da id)=false)
  (m:dF id s.t=j) (p:fK id s.o=i):cb P n s o=some { t:=bm d (.ref id) j,o:=i,r:=bm id ⟨c,sz,(L++M).map enc⟩ s.r,u:=s.u }:=by
 have e:d<n:=j3 v;obtain⟨k,l⟩:=RT q;subst b;unfold cb;rw[lc (by rw[h];simpa[cJ]using e)];simp only[g,h,A,B,zt,vN,z,nr,Qx enc M C,w,f,nx,k,l,amm,m,p,IF]
theorem aaF T T' x y(d:Nat){k}{a b}(f:o.op=.binOp .quo T x y T')(h:o.dst=some d)(e:Nat.ble (d+1) n=true)(i:s.ev x=some (.int k a))(j:s.ev y=some (.int k b))(g:(b != 0)=true):cb P n s o=some (s.put (some d) (.int k (k.wrap (a.tdiv b)))):=by
 have c:d<n:=j3 e
 grind[cb,cJ,tJ]
theorem agi(T T':TypeId)(x y:Operand)(d:Nat){k:IntKind}{a b:Int}(f:o.op=.binOp .rem T x y T')(g:o.dst=some d)(i:Nat.ble (d+1) n=true)(j:s.ev x=some (.int k a))(l:s.ev y=some (.int k b))(h:(b != 0)=true):cb P n s o=some (s.put (some d) (.int k (a.tmod b))):=by
 have e:d<n:=j3 i;have c:¬ b=0:=by simpa using h
 unfold cb;rw[lc (by rw[g];simpa[cJ]using e)];simp only[f,j,l,tJ,c,amm,zt,g,not_false_eq_true]
theorem ahE(T T':TypeId)(x y:Operand)(d:Nat){a b:ByteArray}(f:o.op=.binOp .add T x y T')(h:o.dst=some d)(e:Nat.ble (d+1) n=true)(i:s.ev x=some (.str a))(j:s.ev y=some (.str b))(g:rS a b=true):cb P n s o=some (s.put (some d) (.str (a++b))):=by
 have c:d<n:=j3 e;unfold cb
 grind[cJ,tJ,l4,Jn]
def cQ(a b:Int)(n:Nat):Bool:=decide (0≤a)&&(decide (a≤b)&&decide (b≤n))
theorem l6(enc:α→c6)(L:List α)(a b:Int)(T:TypeId)(x:Operand)(lo l:Option Operand)(d:Nat){e:TypeId}{sz:Nat}(i:o.op=.slice T x lo l none)(j:o.dst=some d)(p:Nat.ble (d+1) n=true)(r:s.ev x=some (.sl (L.map enc)))
  (q:P.underlying T=some (.slice e)) (t:cC P e=some sz) (f:∀c,(enc c).length=sz) (m:∀k,k=L.length→lq s k lo l=some (a,b)) (g:cQ a b L.length=true):cb P n s o=some (s.put (some d) (.sl ((List.drop a.toNat (List.take b.toNat L)).map enc))):=by
 have h:d<n:=j3 p;simp only[cQ,iN,q7]at g;unfold cb;rw[lc (by rw[j];simpa[cJ]using h)];simp only[i,l4,r,q,t,Qx enc L f,zt,kL,nx,m L.length rfl,g.1,g.2.1,g.2.2,amm,j];rw[amn,List.map_take]
end
theorem iz{α:Type}{L:List α}{i j}{x}(h:j<L.length):j<(L.set i x).length:=by grind
section
variable{B:Cx}{Q:Exit→Act→World→Prop}{C:dt}{s:AS}
theorem Xv{e} k{b a}(c:b=a)(d:look k s.t=some (.bool b))(h:VE B Q C e { s with t:=bm k (.bool a) s.t }):VE B Q C e s :=by grind[Y2]
theorem aiJ{a}{l} k{b c}(d:b=c)(e:look k s.t=some (.bool b))(h:OT B Q C a l { s with t:=bm k (.bool c) s.t }):OT B Q C a l s :=by grind[F0]
theorem aU.pzo{a:Act}{w:World}{ι:Env}(h:aU B s a w ι){k}{cs}(f:look k s.o=some cs):aU B { s with o:=bm k (cs.map jg) s.o } a w ι:=by
 refine⟨⟨h.hs.below,h.hs.old,h.hs.use,h.hs.own,h.hs.inj,fun i c b=>?_,h.hs.kr,fun i c b d=>?_,h.hs.arrs,h.hs.pin⟩,h.dfr,h.n,h.tmp⟩
 ·simp only[cv]at b;by_cases e:i=k
  ·subst e;exact h.hs.ko i cs f
  ·rw[kb e]at b;exact h.hs.ko i c b
 ·simp only[cv]at b;by_cases e:i=k
  ·subst e;rw[lc rfl]at b;injection b with b;subst b
   obtain⟨g,T,vs,j,l,m⟩:=h.hs.objs i cs f d;exact⟨g,T,vs,j,l,m.pz⟩
  ·rw[kb e]at b;exact h.hs.objs i c b d
theorem Xx{e} k{cs}(c:look k s.o=some cs)(h:VE B Q C e { s with o:=bm k (cs.map jg) s.o }):VE B Q C e s:=fun a w ι b=>h a w ι (b.pzo c)
def eh(s:AS)(o:Oper):Option (FuncId×c6) :=
 match o.op with
 | .call c=>match c.callee with
  | .value a=>match s.ev a,dk s c.args.toList with
   | some (.fn f aO),some l=>match dW [] l with
    | true=>some (f,l.map gF++aO)
    | false=>none
   | _,_=>none
  | _=>none
 | _=>none
theorem Ro{b}{r} o(h:o.guard=none){f}{a}{V}(d:eh s o=some (f,a))(g:cJ B.n o.dst=true)(c:cF B.P f=true)(e:aX B.P f a (fun v _=>v=V))(i:V.dg []=true)(k:OT B Q C b r (s.put o.dst V)):OT B Q C b (o::r) s:=by
 grind[eh,aa5]
theorem U0{c:Array Oper}{l r:List Oper}(o:Oper){f:FuncId}{a:c6}{V:AV}(x:l=o::r)(h:cH c s o=true)(p:aX B.P f a (fun v _=>v=V))(e:cF B.P f=true)(n:eh s o=some (f,a))(g:(cJ B.n o.dst&&V.dg [])=true)(k:OT B Q C c r (s.put o.dst V)):OT B Q C c l s:=by
 subst x;simp only[iN]at g;unfold cH at h;split at h
 ·rename_i i;exact Ro o i n g.1 e p g.2 k
 ·rename_i j b i;split at h
  ·rename_i v m;obtain⟨y,d,q,t,u⟩:=oM m;have w:v=b:=by cases v<;>cases b<;>simp at h⊢
   subst w;exact sv i q t u (Ro { o with guard:=none } rfl n g.1 e p g.2 k)
  grind
end
section
variable{B:Cx}{Q:Exit→Act→World→Prop}{C:dt}{s:AS}
theorem NS{q:Array Oper}{r:List Oper}(o:Oper)(hg:o.guard=none){f:FuncId}{h:c6}{V:AV}(id d:Nat){ar:co}(i:eh s o=some (f,h))(hd:cJ B.n o.dst=true)(J:cF B.P f=true)
  (hc:aX B.P f h (fun v W=>v=V∧look id W.r=some ar)) (a0:V.dg []=false) (T:has s.u d=false) (A:∀(N:Nat→Prop) w ι x,Rel N w ι V x→∃y,ι id=some y)
  (k:OT B Q C q r (({ s with r:=bm d ar s.r,u:=d::s.u }:AS).put o.dst (V.fY id d))) (R:Nat.ble (id+1) TG=true):OT B Q C q (o::r) s:=by
 unfold eh at i;split at i
 ·rename_i c M;split at i
  ·rename_i fo t;split at i
   ·rename_i f' aO l hf hl;split at i
    ·rename_i hu;injection i with i;injection i with X Y;subst X;subst Y
     intro a w ι p;refine aa6 hg fun K hK=>?_;unfold Oper.wp;obtain⟨ys,O,H,I⟩:=kx p M t hf J;rw[O,aeq];refine (hc (NN B.M ι) w _ (fun b j=>lW p.hs j) (Aj p hl hu H I)).mono ?_
     rintro e w' ⟨x,v,W,ι1,rfl,⟨rfl,m⟩,g,U⟩
     obtain⟨y,S⟩:=A _ _ _ _ U;obtain⟨P,G⟩:=p.hs.import g (j3 R) S m T;have L:=p.hs.free T;have Z:Rel (NN B.M (ext ι d y)) w' (ext ι d y) (v.fY id d) x:=U.fY G (fun z E=>by rw[S]at E;injection E with E;subst E;exact cI _ _ _);have D:aU B { s with r:=bm d ar s.r,u:=d::s.u } a w' (ext ι d y) :=
      p.world P rfl g.below.plain.size (fun b n j=>by
       rcases gg j with j|j
       ·exact j
       ·rcases (g.own id b (by rw[S];exact j)).1 with F|F;exact absurd n (akq.2 F);exact F.elim) (fun b n _=>g.below.plain.block b n) (ff L y)
     exact hK _ _ (k _ _ _ (D.put (fU hd) Z))
    grind
   grind
  grind
 grind
theorem eX id:∀N w ι x,Rel N w ι (.ref id) x→∃y,ι id=some y:=by
 intro N w ι x h;cases h with|ref _ _ A n c h=>grind
theorem Ct{id}{i:Nat}{cs}(b:cs[i]?=some (.ref id)):∀N w ι x,Rel N w ι (.tup cs) x→∃y,ι id=some y:=by
 intro N w ι x h;cases h with
 | tup _ _ vs d c =>
  have a:i<vs.length:=by grind
  exact eX id N w ι _ (c i _ _ b (jt a))
theorem Wx{g:Array Oper}{l r:List Oper}(o:Oper)(id a:Nat){f:FuncId}{c:c6}{V V':AV}{ar:co}(I:l=o::r)(i:cH g s o=true)(z:aX B.P f c (fun v K=>v=V∧look id K.r=some ar))(h:cF B.P f=true)
  (e:∀(N:Nat→Prop) w ι x,Rel N w ι V x→∃y,ι id=some y) (t:eh s o=some (f,c)) (A:cJ B.n o.dst=true) (m:V.dg []=false) (D:has s.u a=false) (J:V.fY id a=V')
  (k:OT B Q C g r (({ s with r:=bm a ar s.r,u:=a::s.u }:AS).put o.dst V')) (n:Nat.ble (id+1) TG=true:=by kernel_rfl):OT B Q C g l s:=by
 subst I;subst J;unfold cH at i;split at i
 ·rename_i p;exact NS o p id a t A h z m D e k n
 ·rename_i j b p;split at i
  ·rename_i v q;obtain⟨L,d,E,F,G⟩:=oM q;have H:v=b:=by cases v<;>cases b<;>simp at i⊢
   subst H;exact sv p E F G (NS { o with guard:=none } rfl id a t A h z m D e k n)
  ·cases i
end
theorem aX.cB{P}{f}{a}{V V'}{id}{ar}(q:aX P f a (fun v s=>v=V∧look id s.r=some ar))(r:V.cB id ar.l=V')(d:Nat.ble (id+1) TG=true:=by kernel_rfl):aX P f a (fun v _=>v=V'):=fun M w xs m o =>
 (q M w xs m o).mono fun _ _ ⟨x,v,s,ι,j,⟨k,g⟩,h,l⟩=>by
  subst k;subst r;refine⟨x,v.cB id ar.l,s.cB id ar.l,fO ι id,j,rfl,h.cB (j3 d) g rfl,?_⟩;exact l.cB (fun b p=>kV b p) (fun i e=>gf _ e) (fun A n c e=>h.tF (j3 d) g A n c e _)
open Classical in
section
variable{B:Cx}{Q:Exit→Act→World→Prop}{C:dt}{s:AS}
def zJ:BinOp→Bool
 | .eql|.neq=>true
 | _=>false
def sA:BinOp→Bool
 | .neq=>true
 | _=>false
theorem N0{f:Array Oper}{l r:List Oper}(o:Oper)(op:BinOp)(T T':TypeId)(x y:Operand)(d:Nat)(L:hZ){e:TypeId}(hl:l=o::r)(i:cH f s o=true)(g:o.op=.binOp op T x y T')(E:o.dst=some d)(hn:Nat.ble (d+1) B.n=true)
  (hx:s.ev x=some (.sl L)) (hy:s.ev y=some .nils) (u:((zJ op&&(match B.P.underlying T with|some (.slice _)=>true|_=>false))=true)) (ka:L=[]→OT B Q C f r (s.put (some d) (.bool (!sA op)))) (Y:OT B Q C f r (s.put (some d) (.bool (sA op)))):OT B Q C f l s:=by
 subst hl;have J:d<B.n:=j3 hn;have key:∀(o:Oper),o.guard=none→o.op=.binOp op T x y T'→o.dst=some d→OT B Q C f (o::r) s:=by
  intro o i g E a w ι M;refine aa6 i fun K I=>?_;unfold Oper.wp;simp only[iN]at u;obtain⟨p,u⟩:=u;split at u
  case h_2=>cases u
  rename_i et N;have z:=M.ev hx;have D:=M.ev hy;have P:a.eval y=.slice none 0 0:=by cases h':a.eval y<;>rw[h']at D<;>cases D;rfl
  have run:∀(A:Option Addr) (n c:Nat),a.eval x=.slice A n c→(execOp a.eval o).run B.P w=.ok (.value (.bool (if A.isNone=true then !sA op else sA op))) w:=by
   intro A n c hA;have R:∀{q:BinOp},q=.eql∨q=.neq→(eqGuard q T x y (.slice A n c) (.slice none 0 0)).run B.P w=.ok () w:=by
    intro q hq;rcases hq with rfl|rfl<;>simp[eqGuard]
   have S:(Op.equalIn 10000 T (.slice A n c) (.slice none 0 0)).run B.P w=.ok A.isNone w:=by
    unfold Op.equalIn;rw[sj,pt N w];cases A<;>rfl
   unfold execOp;rw[g];simp only[hA,P,sj];cases op<;>simp[zJ]at p
   ·have G:binOp .eql T (.slice A n c) (.slice none 0 0)=(do pure (.bool (← Op.equalIn 10000 T (.slice A n c) (.slice none 0 0)))):=rfl;rw[R (.inl rfl),G];simp only[u3,sj,S,IT,sA];cases A<;>rfl
   ·have G:binOp .neq T (.slice A n c) (.slice none 0 0)=(do pure (.bool (!(← Op.equalIn 10000 T (.slice A n c) (.slice none 0 0))))):=rfl;rw[R (.inr rfl),G];simp only[u3,sj,S,IT,sA];cases A<;>rfl
  have h:∀b,OT B Q C f r (s.put (some d) (.bool b))→(execOp a.eval o).run B.P w=.ok (.value (.bool b)) w→wpList B.P f (Kw B.P Q C) r (a.put o.dst (.bool b)) w:=fun b m _=>by
   rw[E];exact m _ _ _ (M.put (fun k m=>by injection m with m;subst m;exact J) (.bool _ _))
  generalize U:a.eval x=X at z;cases z with
  | sl0 _ A c =>
   have F:=run A 0 c U;rw[F];cases A with
   | none=>exact I _ _ (h _ (by simpa using ka rfl) F)
   | some _=>exact I _ _ (h _ (by simpa using Y) F)
  | sl _ _ b o c sz a0 hz V hN h1 hc F W =>
   have t:=run _ _ _ U;rw[t];exact I _ _ (h _ (by simpa using Y) t)
 unfold cH at i;split at i
 ·rename_i H;exact key o H g E
 ·rename_i j b H;split at i
  ·rename_i v O;obtain⟨og,d',Z,g2,g3⟩:=oM O;have V:v=b:=by cases v<;>cases b<;>simp at i⊢
   subst V;exact sv H Z g2 g3 (key { o with guard:=none } rfl g E)
  ·cases i
end
def ak(k:IntKind)(x:Int):c6:=[.int k x]
def aaX(x:Bool):c6:=[.bool x]
def adS(x:ByteArray):c6:=[.str x]
def IB{α:Type}(f:α→c6)(x:List α):c6:=[.sl (x.map f)]
structure V1(α:Type) where
 a0:α
structure V2(α:Type) where
 a0:α
 a1:α
structure V4(α:Type) where
 a0:α
 a1:α
 a2:α
 a3:α
instance{α:Type}[Inhabited α]:Inhabited (V2 α):=⟨⟨default,default⟩⟩
instance{α:Type}[Inhabited α]:Inhabited (V4 α):=⟨⟨default,default,default,default⟩⟩
def kT{α:Type}(f:α→c6)(x:V4 α):c6:=f x.a0++(f x.a1++(f x.a2++f x.a3))
end Go.Proofs.YtocgkfoifehcbaaGreat

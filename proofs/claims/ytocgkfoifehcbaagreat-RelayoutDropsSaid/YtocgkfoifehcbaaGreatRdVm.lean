/- Batches of steps on abstract states by computation; loops by fuel; rules for lists of structs. No program in sight. -/
import Derived.Test.YtocgkfoifehcbaaGreatRdAdrw
namespace Go.Proofs.YtocgkfoifehcbaaGreat
set_option linter.all false
open Go.RowKit
def MO:=@List.map_append
def amc:=@Nat.beq_refl
def amV:=@and_self
def amW:=@List.map_drop
def qA:Code→ed→Code
 | c,[]=>c
 | .seq a _,0::p=>qA a p
 | .seq _ b,_::p=>qA b p
 | .cond _ a _,0::p=>qA a p
 | .cond _ _ b,_::p=>qA b p
 | .block _ c,_::p=>qA c p
 | .loop c,_::p=>qA c p
 | c,_::_=>c
def cat(f:Func)(p:ed):Code:=match f.body with|some c=>qA c p|none=>.skip
def opsOf:Code→Array Oper
 | .region _ ops _=>ops
 | _ => #[]
def dF(f:Func)(p:ed):Array Oper:=opsOf (cat f p)
def aS(f:Func)(p:ed)(k:Nat):Oper:=((dF f p).toList.drop k).headD default
def aU(f:Func)(p:ed)(k:Nat):List Oper:=(dF f p).toList.drop k
def vB(a:Array Oper)(s:AS)(j:Nat):Option Bool :=
 match a.toList[j]? with
 | some b=>match b.dst with
  | some d=>match look d s.t with
   | some (.bool v)=>some v
   | _=>none
  | none=>none
 | none=>none
def zG(n:Nat)(s:AS)(o:Oper):Option AS:=match cK n o.dst with|true=>some (s.put o.dst (.tup []))|false=>none
def B7(a:Array Oper)(s:AS)(j:Nat):Bool :=
 match a.toList[j]? with
 | some b=>match b.dst with
  | some d=>match look d s.t with
   | some (.tup [])=>true
   | _=>false
  | none=>false
 | none=>false
theorem VA{a}{s}{j}(h:B7 a s j=true):∃b d,a.toList[j]?=some b∧b.dst=some d∧look d s.t=some (.tup []):=by
 grind[B7]
def ny(P:Program)(n:Nat)(a:Array Oper)(s:AS)(o:Oper):Option AS :=
 match o.guard with
 | none=>cc P n s o
 | some (j,b)=>match vB a s j with
  | some true=>match b with|true=>cc P n s { o with guard:=none }|false=>zG n s o
  | some false=>match b with|false=>cc P n s { o with guard:=none }|true=>zG n s o
  | none=>match B7 a s j with|true=>zG n s o|false=>none
def ov(P:Program)(n:Nat)(a:Array Oper):Nat→List Oper→AS→Option (List Oper×AS)
 | 0,l,s=>some (l,s)
 | _+1,[],s=>some ([],s)
 | k+1,o::r,s=>match ny P n a s o with
  | some s'=>ov P n a k r s'
  | none=>none
theorem oF{a}{s}{j}{v}(h:vB a s j=some v):∃b d,a.toList[j]?=some b∧b.dst=some d∧look d s.t=some (.bool v):=by
 grind[vB]
section
variable{B:Cx}{Q:Exit→Act→World→Prop}{C:dt}{s:AS}
theorem Hl{c:Array Oper}{o m:Oper}{r:List Oper}{s':AS}{j d:Nat}{b:Bool}{v:AV}(q:o.guard=some (j,b))(t:c.toList[j]?=some m)(p:m.dst=some d)(y:look d s.t=some v)(h:v=.bool (!b)∨v=.tup [])(e:zG B.n s o=some s')(k:OT B Q C c r s'):OT B Q C c (o::r) s:=fun a w ι n=>by
 obtain⟨x,l,u⟩:=n.tmp d _ y;have g:c[j]?=some m:=by simpa using t
 have z:¬ Region.wanted o (yielded c a.tmps)=true:=by
  rcases h with rfl|rfl<;>cases u<;>cases b<;>simp[Region.wanted,q,yielded,g,p,l]
 unfold wpList;rw[kc z];unfold zG at e;split at e
 ·rename_i f;injection e with e;subst e
  exact k _ _ _ (n.put (fX f) (.tup _ _ [] rfl (fun i x v l _=>by simp at l)))
 ·cases e
theorem S3{a:Array Oper}{o:Oper}{r:List Oper}{s':AS}(h:ny B.P B.n a s o=some s')(k:OT B Q C a r s'):OT B Q C a (o::r) s:=by
 unfold ny at h;split at h
 ·rename_i c;exact FX c h k
 ·rename_i j b c;split at h
  ·rename_i i;obtain⟨l,d,e,f,g⟩:=oF i;cases b with
   | true=>exact vR c e f g (FX rfl h k)
   | false=>exact Hl c e f g (.inl rfl) h k
  ·rename_i i;obtain⟨l,d,e,f,g⟩:=oF i
   grind[vR,FX,Hl]
  grind[VA,Hl]
theorem wV{a}:∀k l s {l'} {s'},ov B.P B.n a k l s=some (l',s')→OT B Q C a l' s'→OT B Q C a l s
 | 0,l,s,l',s',h,b=>by grind[ov]
 | k+1,[],s,l',s',h,b=>by grind[ov]
 | k+1,o::r,s,l',s',h,b=>by
  unfold ov at h;split at h
  ·rename_i d c;exact S3 c (wV k r d h b)
  grind
theorem ac2{a}{l r}{s'} o(b:l=o::r)(h:ny B.P B.n a s o=some s')(k:OT B Q C a r s'):OT B Q C a l s:=b ▸ S3 h k
end
theorem ain{P}{n}{a}{s s'}{o}(b:o.guard=none)(h:cc P n s o=some s'):ny P n a s o=some s':=by
 grind[ny]
theorem afX{P}{n}{a}{s s'}{o}{j}{b}(c:o.guard=some (j,b))(d:vB a s j=some b)(h:cc P n s { o with guard:=none }=some s'):ny P n a s o=some s':=by
 grind[ny]
def cC(a:Array Oper)(s:AS)(o:Oper):Bool:=match o.guard with
 | none=>true
 | some (j,b)=>match vB a s j with
  | some v=>(match v,b with|true,true=>true|false,false=>true|_,_=>false)
  | none=>false
theorem Za{P}{n}{a}{s s'}{o}(c:cC a s o=true)(h:cc P n s o=some s'):ny P n a s o=some s':=by
 unfold cC at c;split at c
 ·grind[ain]
 ·rename_i j b d;split at c
  ·refine afX d (b:=b) ?_ h
   grind
  grind
def KH(P:Program)(n:Nat):dt→Exit→AS→Option (dt×Exit×AS)
 | .c .skip::C,.normal,s=>some (C,.normal,s)
 | .c (.seq x y)::C,.normal,s=>some (.c x :: .c y::C,.normal,s)
 | .c (.block id c)::C,.normal,s=>some (.c c :: .b id::C,.normal,s)
 | .b _::C,.normal,s=>some (C,.normal,s)
 | .c (.exit id)::C,.normal,s=>some (C,.exit id,s)
 | .c .ret::C,.normal,s=>some (C,.ret,s)
 | .c (.cond c x y)::C,.normal,s=>match s.ev c with
  | some (.bool true)=>some (.c x::C,.normal,s)
  | some (.bool false)=>some (.c y::C,.normal,s)
  | _=>none
 | .c (.region _ ops false)::C,.normal,s=>match ov P n ops 10000 ops.toList s with
  | some ([],s')=>some (C,.normal,s')
  | _=>none
 | .c _::C,.exit id,s=>some (C,.exit id,s)
 | .l _::C,.exit id,s=>some (C,.exit id,s)
 | .b a::C,.exit id,s=>match Nat.beq id a with
  | true=>some (C,.normal,s)
  | false=>some (C,.exit id,s)
 | .c _::C,.ret,s=>some (C,.ret,s)
 | .l _::C,.ret,s=>some (C,.ret,s)
 | .b _::C,.ret,s=>some (C,.ret,s)
 | _,_,_=>none
def pJ(P:Program)(n:Nat):Nat→dt→Exit→AS→Option (dt×Exit×AS)
 | 0,C,e,s=>some (C,e,s)
 | k+1,C,e,s=>match KH P n C e s with
  | some (ks',a,s')=>pJ P n k ks' a s'
  | none=>none
theorem ae5{B:Cx}{Q:Exit→Act→World→Prop}{C:dt}{e:Exit}{s:AS}{ks':dt}{d:Exit}{s':AS}(h:KH B.P B.n C e s=some (ks',d,s'))(a:VE B Q ks' d s'):VE B Q C e s:=by
 unfold KH at h;split at h
 case h_7 =>
  split at h
  ·rename_i c;simp only[th,BY]at h;obtain⟨rfl,rfl,rfl⟩:=h;exact ab4 c a
  ·rename_i c;simp only[th,BY]at h;obtain⟨rfl,rfl,rfl⟩:=h;exact ZR c a
  ·cases h
 case h_8 =>
  split at h
  ·rename_i f;simp only[th,BY]at h;obtain⟨rfl,rfl,rfl⟩:=h;exact Mu (wV _ _ _ f (Lw a))
  ·cases h
 case h_11 =>
  split at h
  ·rename_i b;have:=nx b;simp only[th,BY]at h;obtain⟨rfl,rfl,rfl⟩:=h;subst this;exact Y3 a
  ·rename_i b;simp only[th,BY]at h;obtain⟨rfl,rfl,rfl⟩:=h;exact adW (fun e=>by subst e;rw[amc]at b;cases b) a
 all_goals (first|(simp only[th,BY]at h;obtain⟨rfl,rfl,rfl⟩:=h;first|exact acs a|exact afW a|exact Zh a|exact abe a|exact afB a|exact XA a|grind|exact agb a|grind|exact aaZ a|exact V6 a)|grind)
theorem FN{B}{Q}:∀k C e s {ks'} {a} {s'},pJ B.P B.n k C e s=some (ks',a,s')→VE B Q ks' a s'→VE B Q C e s:=by
 intro k
 induction k with
 | zero =>
  grind[pJ]
 | succ k b =>
  grind[pJ,ae5]
def lK{α}(l:List (Nat×α)):ed→Option (List (Nat×α))
 | []=>some []
 | k::r=>match look k l,lK l r with|some v,some m=>some ((k,v)::m)|_,_=>none
def Bx(u:ed):il→Bool
 | []=>true
 | (_,v)::r=>v.de u&&Bx u r
def Cv(u:ed):iF→Bool
 | []=>true
 | (k,v)::r=>dV u v&&u.contains k&&Cv u r
def B6(u:ed):List (Nat×cj)→Bool
 | []=>true
 | (k,_)::r=>u.contains k&&B6 u r
def pins:ed→ed
 | []=>[]
 | k::r=>match Nat.ble 1000000 k with
  | true=>k::(k-1000000)::pins r
  | false=>pins r
theorem UW:∀{u:ed} {id:Nat},u.contains (da id)=true→(pins u).contains (da id)=true∧(pins u).contains id=true
 | [],_,h=>by cases h
 | k::r,id,h=>by
  simp only[List.contains_cons,Dk,ajC]at h;unfold pins;rcases h with h|h
  ·subst h;have:Nat.ble 1000000 (da id)=true:=by unfold da;simp
   rw[this];simp[da]
  ·have a:=UW h
   grind
def tC:il→ed
 | []=>[]
 | (_,.sit id _ _ _)::r=>id::tC r
 | _::r=>tC r
def AS.pick(s:AS)(ts a rs:ed):Option AS :=
 match lK s.t ts,lK s.o a,lK s.r rs with
 | some t,some o,some r=>if (Bx (a++rs++(tC t++pins s.u)) t&&Cv (a++rs++(tC t++pins s.u)) o&&B6 (a++rs++(tC t++pins s.u)) r)=true then some ⟨t,o,r,a++rs++(tC t++pins s.u)⟩ else none
 | _,_,_=>none
theorem QL{u}{l}:∀{C} {m},lK l C=some m→Bx u m=true→Bs u l m
 | [],m,h,_=>by injection h with h;subst h;trivial
 | k::r,m,h,a=>by
  unfold lK at h;split at h
  ·rename_i v d b c;injection h with h;subst h
   simp only[Bx,iO]at a;exact⟨b,a.1,QL c a.2⟩
  grind
theorem PU{u}{l}:∀{C} {m},lK l C=some m→Cv u m=true→CS u l m
 | [],m,h,_=>by injection h with h;subst h;trivial
 | k::r,m,h,a=>by
  unfold lK at h;split at h
  ·rename_i v d b c;injection h with h;subst h
   simp only[Cv,iO]at a;exact⟨b,a.1.1,a.1.2,PU c a.2⟩
  grind
theorem Mj{u}{l}:∀{C} {m},lK l C=some m→B6 u m=true→Dx u l m
 | [],m,h,_=>by injection h with h;subst h;trivial
 | k::r,m,h,a=>by
  unfold lK at h;split at h
  ·rename_i v d b c;injection h with h;subst h
   simp only[B6,iO]at a;exact⟨b,a.1,Mj c a.2⟩
  grind
theorem U8{s s'}{ts f rs}(h:s.pick ts f rs=some s'):Sub s' s:=by
 unfold AS.pick at h;split at h
 ·rename_i t o r b c d;split at h
  ·rename_i a;injection h with h;subst h
   simp only[iO]at a;refine⟨QL b a.1.1,PU c a.1.2,Mj d a.2,fun id e=>?_⟩
   grind[UW]
  grind
 grind
section
variable{B:Cx}{Q:Exit→Act→World→Prop}{C:dt}{s:AS}
def CB(P:Program)(n k:Nat)(ts c rs:ed)(C:dt)(e:Exit)(s:AS):Option (dt×Exit×AS) :=
 match pJ P n k C e s with
 | some (ks',b,s')=>match s'.pick ts c rs with|some a=>some (ks',b,a)|none=>none
 | none=>none
theorem US{e a}{ks'}{s'} k ts f rs(h:CB B.P B.n k ts f rs C e s=some (ks',a,s'))(d:VE B Q ks' a s'):VE B Q C e s:=by
 unfold CB at h;split at h
 ·rename_i i g j b;split at h
  ·rename_i l c;simp only[th]at h;obtain⟨rfl,rfl,rfl⟩:=h;exact FN _ _ _ _ b (PY _ (U8 c) d)
  grind
 grind
theorem aV.Uy{a:Act}{w:World}{ι:Env}(h:aV B s a w ι){k}{v v'}(d:look k s.t=some v)(c:v=v'):aV B { s with t:=bd k v' s.t } a w ι:=by
 subst c;refine⟨⟨h.hs.below,h.hs.old,h.hs.use,h.hs.own,h.hs.inj,h.hs.ko,h.hs.kr,h.hs.objs,h.hs.arrs,h.hs.pin⟩,h.dfr,h.n,fun j y b=>?_⟩;simp only[cn]at b;by_cases e:j=k
 ·subst e;rw[lp rfl]at b;injection b with b;subst b;exact h.tmp j v d
 ·rw[kc e]at b;exact h.tmp j y b
theorem aau{e} k{v v'}{b}(g:look k s.t=some v)(c:v=v')(f:bd k v' s.t=b)(h:VE B Q C e { s with t:=b }):VE B Q C e s:=fun a w ι d=>h a w ι (f ▸ d.Uy g c)
theorem GV{b}{l} k{v v'}{c}(g:look k s.t=some v)(d:v=v')(f:bd k v' s.t=c)(h:OT B Q C b l { s with t:=c }):OT B Q C b l s:=fun a w ι e=>h a w ι (f ▸ e.Uy g d)
theorem aju{e}{s'}(a:s=s')(h:VE B Q C e s'):VE B Q C e s:=a ▸ h
def LP(B:Cx)(Q:Exit→Act→World→Prop)(C:dt)(c:Code)(m:Nat)(s:AS):Prop:=∀a w ι,aV B s a w ι→Code.rounds B.P c (Kw B.P Q C) m a w
abbrev kl(B:Cx)(Q:Exit→Act→World→Prop)(C:dt)(c:Code)(m:Nat):aq:=.l (Code.rounds B.P c (Kw B.P Q C) m)
theorem nT{c b} m(d:b=.loop c)(h:LP B Q C c m s):VE B Q (.c b::C) .normal s:=by
 subst d;exact fun a w ι e=>wp_loop_rounds m (h a w ι e)
theorem bj{c}{m}(h:VE B Q (.c c::kl B Q C c m::C) .normal s):LP B Q C c (m+1) s:=fun a w ι b=>h a w ι b
theorem bn{c}{m}(h:LP B Q C c m s):VE B Q (kl B Q C c m::C) .normal s:=fun a w ι b=>h a w ι b
end
theorem ao{α:Type}{c}{x y:Option α}{r}(h:(if c=true then x else y)=some r):(c=true∧x=some r)∨(c=false∧y=some r):=by
 grind
def aE{α:Type}(c:Bool)(x:Option α):Option α:=match c with|true=>x|false=>none
theorem aF{α}{c}{x:Option α}{r}(h:aE c x=some r):c=true∧x=some r:=by
 cases c
 ·cases h
 ·exact⟨rfl,h⟩
theorem bind_some{α β:Type}{x}{k:α→Option β}{r}(h:x.bind k=some r):∃y,x=some y∧k y=some r:=by
 cases x with
 | none=>grind
 | some y=>grind
def aa(n:Int):Int:=IntKind.wrap .i64 n
theorem FE{α β:Type}(f:α→β)(L:List α) d{j}(h:j<L.length):(L.map f)[j]?=some (f (L.getD j d)):=by
 grind
def aO(i:Int)(n:Nat):Bool:=decide (0≤i)&&decide (i<n)
theorem bF{i}{n}(h:aO i n=true):0≤i∧i.toNat<n:=by
 grind[aO]
section
variable{P:Program}{n:Nat}{s:AS}{o:Oper}{α:Type}[Inhabited α]
theorem aj9(enc b:α→c6)(L:List α)(i:Int)(T:TypeId)(x y:Operand)(d:Nat){sz:Nat}{e:TypeId}{kd:IntKind}(f:o.op=.indexAddr T x y)(g:o.dst=some d)(p:Nat.ble (d+1) n=true)(r:s.ev x=some (.sl (L.map enc)))(t:s.ev y=some (.int kd i))
  (k:ph P T=none) (q:gA P T=some (e,sz)) (l:aO i L.length=true) (u:∀a,(enc a).length=sz) (m:∀a,enc a=b a):cc P n s o=some (s.put (some d) (.cptr (b (L.getD i.toNat default)))):=by
 obtain⟨h,j⟩:=bF l;have c:d<n:=kb p;unfold cc;rw[lp (by rw[g];simpa[cK]using c)];simp only[f,r,t,tw,yj,lp h,k,q,FE enc L default j,g,lp (u _)];rw[m]
theorem aea enc(L:List α) T x(d:Nat){e}(c:o.op=.call ⟨.builtin .len,#[x],#[T]⟩)(f:o.dst=some d)(b:Nat.ble (d+1) n=true)(h:s.ev x=some (.sl (L.map enc)))
  (g:gA P T=some e):cc P n s o=some (s.put (some d) (.int .i64 L.length)):=by
 have a:d<n:=kb b
 grind[cc,cK,ot,zF]
theorem YM(enc:α→c6)(L:List α)(T:TypeId)(x:Operand)(d:Nat){id sz:Nat}{e:TypeId×Nat}{et:TypeId}(c:o.op=.call ⟨.builtin .len,#[x],#[T]⟩)(f:o.dst=some d)(b:Nat.ble (d+1) n=true)(i:s.ev x=some (.ref id))(g:look id s.r=some ⟨et,sz,L.map enc⟩)
  (h:gA P T=some e):cc P n s o=some (s.put (some d) (.int .i64 L.length)):=by
 have a:d<n:=kb b;unfold cc
 grind[cK,ot,zF]
theorem abt(enc:α→c6)(L:List α)(i:Int)(T:TypeId)(x y:Operand)(d:Nat){id sz:Nat}{e et:TypeId}{kd:IntKind}(b:o.op=.indexAddr T x y)(c:o.dst=some d)(k:Nat.ble (d+1) n=true)(p:s.ev x=some (.ref id))(q:s.ev y=some (.int kd i))
  (l:look id s.r=some ⟨et,sz,L.map enc⟩) (h:ph P T=none) (m:gA P T=some (e,sz)) (j:aO i L.length=true):cc P n s o=some (s.put (some d) (.eptr id sz i.toNat 0)):=by
 obtain⟨f,g⟩:=bF j;have a:d<n:=kb k;unfold cc;rw[lp (by rw[c];simpa[cK]using a)];simp only[b,p,q,tw,yj,lp f,h,m,l,c,nw,g,amV,AT]
theorem abX(enc b:α→c6)(L:List α)(T:TypeId)(x:Operand)(d:Nat){id sz j off:Nat}{et:TypeId}{v:AV}(f:id<TG)(e:o.op=.load T x)(g:o.dst=some d)(l:Nat.ble (d+1) n=true)(p:s.ev x=some (.eptr id sz j off))
  (m:look id s.r=some ⟨et,sz,L.map enc⟩) (k:j<L.length) (i:∀a,enc a=b a) (h:iV P T ((b (L.getD j default)).drop off)=some v):cc P n s o=some (s.put (some d) v):=by
 have c:d<n:=kb l;rw[←i]at h;unfold cc;rw[lp (by rw[g];simpa[cK]using c)];simp only[f,e,p,mz,AS.mem,m,AT,FE enc L default k,g,h]
theorem agQ(enc b:α→c6)(L:List α)(new:α)(T:TypeId)(x y:Operand){id sz j off:Nat}{et:TypeId}{v:AV}{d:c6}(e:o.op=.store T x y)(g:o.dst=none)(q:s.ev x=some (.eptr id sz j off))(t:s.ev y=some v)
  (l:look id s.r=some ⟨et,sz,L.map enc⟩) (i:j<L.length) (p:jR v=some d) (u:cr P T=some d.length) (h:∀a,enc a=b a) (k:Nat.ble (off+d.length) (b (L.getD j default)).length=true) (m:dV [] d=true) (f:jn off d (b (L.getD j default))=b new) :
  cc P n s o=some { s with r:=bd id ⟨et,sz,(L.set j new).map enc⟩ s.r }:=by
 have c:=kb k;rw[←h]at c f;rw[←h]at f;unfold cc;rw[lp (by rw[g];rfl)];simp only[e,g,q,t,rQ,l,p,FE enc L default i,u,c,m,amV,AT,f,List.map_set]
def fits(n bytes:Nat):Bool:=decide (n≤maxLen)&&decide (n*bytes≤140737488355328)
theorem X1{n b}(h:fits n b=true):n≤maxLen∧n*b≤140737488355328:=by grind[fits]
theorem Rb(enc:α→c6)(M:List α){sz}(b:∀a,(enc a).length=sz):(M.map enc).all (fun e=>e.length == sz)=true:=by
 grind
theorem aho(enc:α→c6)(L M:List α)(T:TypeId)(x y:Operand)(d:Nat){id sz bytes:Nat}{et:TypeId}{new:h6}{i:il}{h:iF}(f:o.op=.call ⟨.builtin .append,#[x,y],#[T,T]⟩)(g:o.dst=some d)(q:Nat.ble (d+1) n=true)
  (z:s.ev x=some (.ref id)) (A:s.ev y=some (.sl new)) (b:new=M.map enc) (v:look id s.r=some ⟨et,sz,L.map enc⟩) (w:ja P T=some (et,sz,bytes)) (B:∀a,(enc a).length=sz) (p:fits (L.length+M.length) bytes=true) (e:s.u.contains (da id)=false)
  (l:dw id s.t=i) (m:eV id s.o=h):cc P n s o=some { t:=bd d (.ref id) i,o:=h,r:=bd id ⟨et,sz,(L++M).map enc⟩ s.r,u:=s.u }:=by
 have c:d<n:=kb q;obtain⟨j,k⟩:=X1 p;subst b;unfold cc;rw[lp (by rw[g];simpa[cK]using c)];simp only[f,g,z,A,AT,zK,w,oI,Rb enc M B,v,e,nw,j,k,amV,l,m,MO]
theorem adJ T T' x y(d:Nat){k}{a b}(f:o.op=.binOp .quo T x y T')(h:o.dst=some d)(e:Nat.ble (d+1) n=true)(i:s.ev x=some (.int k a))(j:s.ev y=some (.int k b))(g:(b != 0)=true):cc P n s o=some (s.put (some d) (.int k (k.wrap (a.tdiv b)))):=by
 have c:d<n:=kb e
 grind[cc,cK,Ai]
theorem Zj(T T':TypeId)(x y:Operand)(d:Nat){k:IntKind}{a b:Int}(f:o.op=.binOp .rem T x y T')(g:o.dst=some d)(i:Nat.ble (d+1) n=true)(j:s.ev x=some (.int k a))(l:s.ev y=some (.int k b))(h:(b != 0)=true):cc P n s o=some (s.put (some d) (.int k (a.tmod b))):=by
 have e:d<n:=kb i;have c:¬ b=0:=by simpa using h
 unfold cc;rw[lp (by rw[g];simpa[cK]using e)];simp only[f,j,l,Ai,c,amV,AT,g,not_false_eq_true]
def cF(a b:Int)(n:Nat):Bool:=decide (0≤a)&&(decide (a≤b)&&decide (b≤n))
theorem lx(enc:α→c6)(L:List α)(a b:Int)(T:TypeId)(x:Operand)(lo hi:Option Operand)(d:Nat){e:TypeId}{sz:Nat}(i:o.op=.slice T x lo hi none)(j:o.dst=some d)(m:Nat.ble (d+1) n=true)(q:s.ev x=some (.sl (L.map enc)))
  (p:P.underlying T=some (.slice e)) (r:cr P e=some sz) (f:∀c,(enc c).length=sz) (l:∀k,k=L.length→jJ s k lo hi=some (a,b)) (g:cF a b L.length=true):cc P n s o=some (s.put (some d) (.sl ((List.drop a.toNat (List.take b.toNat L)).map enc))):=by
 have h:d<n:=kb m;simp only[cF,iO,q6]at g;unfold cc;rw[lp (by rw[j];simpa[cK]using h)];simp only[i,lG,q,p,r,Rb enc L f,AT,ke,nw,l L.length rfl,g.1,g.2.1,g.2.2,amV,j];rw[amW,List.map_take]
end
theorem Wm{P:Program}{n:Nat}{s:AS}{o:Oper}{α:Type}(enc:α→c6)(L:List α)(a b:Int)(T:TypeId)(x:Operand)(lo hi:Option Operand)(d:Nat){id e sz:Nat}{et:TypeId}(g:o.op=.slice T x lo hi none)(h:o.dst=some d)(j:Nat.ble (d+1) n=true)(p:s.ev x=some (.ref id))
  (l:look id s.r=some ⟨et,sz,L.map enc⟩) (m:P.underlying T=some (.slice e)) (q:cr P e=some sz) (i:∀k,k=L.length→jJ s k lo hi=some (a,b)) (c:cF a b L.length=true):cc P n s o=some (s.put (some d) (.sref id sz a.toNat (b.toNat-a.toNat))):=by
 have f:d<n:=kb j;simp only[cF,iO,q6]at c;unfold cc;rw[lp (by rw[h];simpa[cK]using f)];simp only[g,lG,p,m,q,l,AT,ke,nw,i L.length rfl,c.1,c.2.1,c.2.2,amV,h]
theorem iB{α:Type}{L:List α}{i j}{x}(h:j<L.length):j<(L.set i x).length:=by grind
section
variable{B:Cx}{Q:Exit→Act→World→Prop}{C:dt}{s:AS}
theorem aax{e} k{b a}(c:b=a)(d:look k s.t=some (.bool b))(h:VE B Q C e { s with t:=bd k (.bool a) s.t }):VE B Q C e s :=by grind[aau]
theorem XE{a}{l} k{b c}(d:b=c)(e:look k s.t=some (.bool b))(h:OT B Q C a l { s with t:=bd k (.bool c) s.t }):OT B Q C a l s :=by grind[GV]
theorem aV.pzo{a:Act}{w:World}{ι:Env}(h:aV B s a w ι){k}{cs}(d:look k s.o=some cs):aV B { s with o:=bd k (cs.map fT) s.o } a w ι:=by
 refine⟨⟨h.hs.below,h.hs.old,h.hs.use,h.hs.own,h.hs.inj,fun i b hi=>?_,h.hs.kr,fun i b hi c=>?_,h.hs.arrs,h.hs.pin⟩,h.dfr,h.n,h.tmp⟩
 ·simp only[cn]at hi;by_cases e:i=k
  ·subst e;exact h.hs.ko i cs d
  ·rw[kc e]at hi;exact h.hs.ko i b hi
 ·simp only[cn]at hi;by_cases e:i=k
  ·subst e;rw[lp rfl]at hi;injection hi with hi;subst hi
   obtain⟨g,T,vs,f,j,l⟩:=h.hs.objs i cs d c;exact⟨g,T,vs,f,j,l.pz⟩
  ·rw[kc e]at hi;exact h.hs.objs i b hi c
theorem aam{e} k{cs}(c:look k s.o=some cs)(h:VE B Q C e { s with o:=bd k (cs.map fT) s.o }):VE B Q C e s:=fun a w ι b=>h a w ι (b.pzo c)
def d9(s:AS)(o:Oper):Option (FuncId×c6) :=
 match o.op with
 | .call c=>match c.callee with
  | .value a=>match s.ev a,dj s c.args.toList with
   | some (.fn f aR),some l=>match dV [] l with
    | true=>some (f,l.map gu++aR)
    | false=>none
   | _,_=>none
  | _=>none
 | _=>none
theorem P8{b}{r} o(h:o.guard=none){f}{a}{V}(d:d9 s o=some (f,a))(g:cK B.n o.dst=true)(c:cI B.P f=true)(e:aY B.P f a (fun v _=>v=V))(i:V.de []=true)(k:OT B Q C b r (s.put o.dst V)):OT B Q C b (o::r) s:=by
 grind[d9,XN]
theorem Tj{c:Array Oper}{l r:List Oper}(o:Oper){f:FuncId}{a:c6}{V:AV}(x:l=o::r)(h:cC c s o=true)(p:aY B.P f a (fun v _=>v=V))(e:cI B.P f=true)(n:d9 s o=some (f,a))(g:(cK B.n o.dst&&V.de [])=true)(k:OT B Q C c r (s.put o.dst V)):OT B Q C c l s:=by
 subst x;simp only[iO]at g;unfold cC at h;split at h
 ·rename_i i;exact P8 o i n g.1 e p g.2 k
 ·rename_i j b i;split at h
  ·rename_i v m;obtain⟨y,d,q,t,u⟩:=oF m;have w:v=b:=by cases v<;>cases b<;>simp at h⊢
   subst w;exact vR i q t u (P8 { o with guard:=none } rfl n g.1 e p g.2 k)
  grind
end
section
variable{B:Cx}{Q:Exit→Act→World→Prop}{C:dt}{s:AS}
theorem LX{q:Array Oper}{r:List Oper}(o:Oper)(hg:o.guard=none){f:FuncId}{h:c6}{V:AV}(id d:Nat){ar:cj}(i:d9 s o=some (f,h))(hd:cK B.n o.dst=true)(J:cI B.P f=true)
  (hc:aY B.P f h (fun v W=>v=V∧look id W.r=some ar)) (a0:V.de []=false) (T:has s.u d=false) (A:∀(N:Nat→Prop) w ι x,Rel N w ι V x→∃y,ι id=some y)
  (k:OT B Q C q r (({ s with r:=bd d ar s.r,u:=d::s.u }:AS).put o.dst (V.f9 id d))) (R:Nat.ble (id+1) TG=true):OT B Q C q (o::r) s:=by
 unfold d9 at i;split at i
 ·rename_i c M;split at i
  ·rename_i fo t;split at i
   ·rename_i f' aR l hf hl;split at i
    ·rename_i hu;injection i with i;injection i with X Y;subst X;subst Y
     intro a w ι p;refine Ts hg fun K hK=>?_;unfold Oper.wp;obtain⟨ys,O,H,I⟩:=kF p M t hf J;rw[O,ahR];refine (hc (NN B.M ι) w _ (fun b j=>ml p.hs j) (y9 p hl hu H I)).mono ?_
     rintro e w' ⟨x,v,W,ι1,rfl,⟨rfl,m⟩,g,U⟩
     obtain⟨y,S⟩:=A _ _ _ _ U;obtain⟨P,G⟩:=p.hs.import g (kb R) S m T;have L:=p.hs.free T;have Z:Rel (NN B.M (ext ι d y)) w' (ext ι d y) (v.f9 id d) x:=U.f9 G (fun z E=>by rw[S]at E;injection E with E;subst E;exact cJ _ _ _);have D:aV B { s with r:=bd d ar s.r,u:=d::s.u } a w' (ext ι d y) :=
      p.world P rfl g.below.plain.size (fun b n j=>by
       rcases gk j with j|j
       ·exact j
       ·rcases (g.own id b (by rw[S];exact j)).1 with F|F;exact absurd n (akX.2 F);exact F.elim) (fun b n _=>g.below.plain.block b n) (fd L y)
     exact hK _ _ (k _ _ _ (D.put (fX hd) Z))
    grind
   grind
  grind
 grind
theorem ff id:∀N w ι x,Rel N w ι (.ref id) x→∃y,ι id=some y:=by
 intro N w ι x h;cases h with|ref _ _ A n c h=>grind
theorem D1{id}{i:Nat}{cs}(hi:cs[i]?=some (.ref id)):∀N w ι x,Rel N w ι (.tup cs) x→∃y,ι id=some y:=by
 intro N w ι x h;cases h with
 | tup _ _ vs c b =>
  have a:i<vs.length:=by grind
  exact ff id N w ι _ (b i _ _ hi (j3 a))
theorem abO{g:Array Oper}{l r:List Oper}(o:Oper)(id a:Nat){f:FuncId}{c:c6}{V V':AV}{ar:cj}(I:l=o::r)(i:cC g s o=true)(z:aY B.P f c (fun v K=>v=V∧look id K.r=some ar))(h:cI B.P f=true)
  (e:∀(N:Nat→Prop) w ι x,Rel N w ι V x→∃y,ι id=some y) (t:d9 s o=some (f,c)) (A:cK B.n o.dst=true) (m:V.de []=false) (D:has s.u a=false) (J:V.f9 id a=V')
  (k:OT B Q C g r (({ s with r:=bd a ar s.r,u:=a::s.u }:AS).put o.dst V')) (n:Nat.ble (id+1) TG=true:=by kernel_rfl):OT B Q C g l s:=by
 subst I;subst J;unfold cC at i;split at i
 ·rename_i p;exact LX o p id a t A h z m D e k n
 ·rename_i j b p;split at i
  ·rename_i v q;obtain⟨L,d,E,F,G⟩:=oF q;have H:v=b:=by cases v<;>cases b<;>simp at i⊢
   subst H;exact vR p E F G (LX { o with guard:=none } rfl id a t A h z m D e k n)
  ·cases i
end
theorem aY.cA{P}{f}{a}{V V'}{id}{ar}(p:aY P f a (fun v s=>v=V∧look id s.r=some ar))(q:V.cA id ar.l=V')(d:Nat.ble (id+1) TG=true:=by kernel_rfl):aY P f a (fun v _=>v=V'):=fun M w xs l m =>
 (p M w xs l m).mono fun _ _ ⟨x,v,s,ι,h,⟨j,e⟩,g,k⟩=>by
  subst j;subst q;refine⟨x,v.cA id ar.l,s.cA id ar.l,fH ι id,h,rfl,g.cA (kb d) e rfl,?_⟩;exact k.cA (fun b o=>kA b o) (fun i hi=>gj _ hi) (fun A n c hi=>g.uj (kb d) e A n c hi _)
open Classical in
section
variable{B:Cx}{Q:Exit→Act→World→Prop}{C:dt}{s:AS}
def xq:BinOp→Bool
 | .eql|.neq=>true
 | _=>false
def t8:BinOp→Bool
 | .neq=>true
 | _=>false
theorem VV{f:Array Oper}{l r:List Oper}(o:Oper)(op:BinOp)(T T':TypeId)(x y:Operand)(d:Nat)(L:h6){e:TypeId}(hl:l=o::r)(i:cC f s o=true)(g:o.op=.binOp op T x y T')(E:o.dst=some d)(hn:Nat.ble (d+1) B.n=true)
  (hx:s.ev x=some (.sl L)) (hy:s.ev y=some .nils) (u:((xq op&&(match B.P.underlying T with|some (.slice _)=>true|_=>false))=true)) (ka:L=[]→OT B Q C f r (s.put (some d) (.bool (!t8 op)))) (Y:OT B Q C f r (s.put (some d) (.bool (t8 op)))):OT B Q C f l s:=by
 subst hl;have J:d<B.n:=kb hn;have key:∀(o:Oper),o.guard=none→o.op=.binOp op T x y T'→o.dst=some d→OT B Q C f (o::r) s:=by
  intro o i g E a w ι M;refine Ts i fun K I=>?_;unfold Oper.wp;simp only[iO]at u;obtain⟨p,u⟩:=u;split at u
  case h_2=>cases u
  rename_i et N;have z:=M.ev hx;have D:=M.ev hy;have P:a.eval y=.slice none 0 0:=by cases h':a.eval y<;>rw[h']at D<;>cases D;rfl
  have run:∀(A:Option Addr) (n c:Nat),a.eval x=.slice A n c→(execOp a.eval o).run B.P w=.ok (.value (.bool (if A.isNone=true then !t8 op else t8 op))) w:=by
   intro A n c hA;have R:∀{q:BinOp},q=.eql∨q=.neq→(eqGuard q T x y (.slice A n c) (.slice none 0 0)).run B.P w=.ok () w:=by
    intro q hq;rcases hq with rfl|rfl<;>simp[eqGuard]
   have S:(Op.equalIn 10000 T (.slice A n c) (.slice none 0 0)).run B.P w=.ok A.isNone w:=by
    unfold Op.equalIn;rw[sj,ob N w];cases A<;>rfl
   unfold execOp;rw[g];simp only[hA,P,sj];cases op<;>simp[xq]at p
   ·have G:binOp .eql T (.slice A n c) (.slice none 0 0)=(do pure (.bool (← Op.equalIn 10000 T (.slice A n c) (.slice none 0 0)))):=rfl;rw[R (.inl rfl),G];simp only[u5,sj,S,Qf,t8];cases A<;>rfl
   ·have G:binOp .neq T (.slice A n c) (.slice none 0 0)=(do pure (.bool (!(← Op.equalIn 10000 T (.slice A n c) (.slice none 0 0))))):=rfl;rw[R (.inr rfl),G];simp only[u5,sj,S,Qf,t8];cases A<;>rfl
  have h:∀b,OT B Q C f r (s.put (some d) (.bool b))→(execOp a.eval o).run B.P w=.ok (.value (.bool b)) w→wpList B.P f (Kw B.P Q C) r (a.put o.dst (.bool b)) w:=fun b m _=>by
   rw[E];exact m _ _ _ (M.put (fun k m=>by injection m with m;subst m;exact J) (.bool _ _))
  generalize U:a.eval x=X at z;cases z with
  | sl0 _ A c =>
   have F:=run A 0 c U;rw[F];cases A with
   | none=>exact I _ _ (h _ (by simpa using ka rfl) F)
   | some _=>exact I _ _ (h _ (by simpa using Y) F)
  | sl _ _ b o c sz a0 hz V hN h1 hc F W =>
   have t:=run _ _ _ U;rw[t];exact I _ _ (h _ (by simpa using Y) t)
 unfold cC at i;split at i
 ·rename_i H;exact key o H g E
 ·rename_i j b H;split at i
  ·rename_i v O;obtain⟨og,d',Z,g2,g3⟩:=oF O;have V:v=b:=by cases v<;>cases b<;>simp at i⊢
   subst V;exact vR H Z g2 g3 (key { o with guard:=none } rfl g E)
  ·cases i
end
def ak(k:IntKind)(x:Int):c6:=[.int k x]
def XT(x:Bool):c6:=[.bool x]
def Xl(x:ByteArray):c6:=[.str x]
def HP{α:Type}(f:α→c6)(x:List α):c6:=[.sl (x.map f)]
structure V1(α:Type) where
 a0:α
structure V2(α:Type) where
 a0:α
 a1:α
structure V4(α:Type) where
 a0:α
 a1:α
 a2:α
 a3:α
instance{α:Type}[Inhabited α]:Inhabited (V2 α):=⟨⟨default,default⟩⟩
instance{α:Type}[Inhabited α]:Inhabited (V4 α):=⟨⟨default,default,default,default⟩⟩
def kS{α:Type}(f:α→c6)(x:V4 α):c6:=f x.a0++(f x.a1++(f x.a2++f x.a3))
end Go.Proofs.YtocgkfoifehcbaaGreat

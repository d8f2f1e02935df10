/- copy on abstract values. No program in sight. -/
import Derived.Test.YtocgkfoifehcbaaGreatRkAapp
import Derived.Test.YtocgkfoifehcbaaGreatRkAx
namespace Go.Proofs.YtocgkfoifehcbaaGreat
set_option linter.all false
open Go.RowKit
def j3:=@Nat.le_of_ble_eq_true
def mo:=@Nat.eq_of_beq_eq_true
def q7:=@decide_eq_true_eq
def zt:=@if_true
def aku:=@List.length_drop
def akN:=@List.getElem?_replicate
def akR:=@IntKind.wrap_i64
def akW:=@List.getElem?_of_mem
def alV:=@Nat.add_sub_cancel_left
def al2:=@Int.mul_comm
def ame:=@Nat.mul_one
def amq:=@getElem!_pos
theorem NL:Array.range 0 = #[]:=rfl
def fA(n:Int)(bytes:Nat):Bool:=decide (0≤n)&&(decide (n≤9223372036854775807)&&decide (n.toNat*bytes≤140737488355328))
theorem Nr{P:Program}(w:World)(t e:TypeId)(i:TypeInfo)(z:Value)(f:P.underlying t=some (.slice e))(c:P.info? e=some i)(m:i.zero=some z)
  (kl n:IntKind) (l:Int) (g:0≤l) (j:l≤9223372036854775807) (b:l.toNat*i.bytes≤140737488355328) (d:0<i.size) :
  (Instr.makeSlice t (.int kl l) (.int n l)).run P w=.ok (.slice (some ⟨w.heap.size,0,none⟩) l.toNat l.toNat) (w.alloc (.cells ((Array.range (l.toNat*i.size)).map (z.cells[· % z.cells.size]!)) e)):=by
 have r:IntKind.i64.wrap l=l:=by rw[akR];omega
 have o:¬ l<0:=by omega
 have p:¬ (281474976710656<(i.bytes:Int)*l):=by
  have:(i.bytes:Int)*l=((l.toNat*i.bytes:Nat):Int):=by
   rw[Int.natCast_mul,Int.toNat_of_nonneg g,al2]
  omega
 have q:¬ (140737488355328<l.toNat*i.bytes):=by omega
 by_cases k:l.toNat*i.size=0
 ·have a:l.toNat=0:=by
   rcases Nat.mul_eq_zero.1 k with h|h
   ·exact h
   ·omega
  simp[Instr.makeSlice,pt f,asInt,asIntOf,typeInfo,c,sizeOf,r,o,p,q,newRow,askRoom,roomBytes,a,NL]
 ·simp[Instr.makeSlice,pt f,asInt,asIntOf,typeInfo,c,sizeOf,zeroValue,m,newRow]
  grind
theorem Tr{P:Program}{N:Nat→Prop}(w:World){T e:TypeId}{sz bytes:Nat}{m:Int}{zc:c6}(d:jS P T=some (e,sz,bytes))(R:eZ P e=some zc)(D:fA m bytes=true)(kd kd':IntKind):
  ∃vs:ee,(Instr.makeSlice T (.int kd m) (.int kd' m)).run P w=.ok (.slice (some ⟨w.heap.size,0,none⟩) m.toNat m.toNat) (w.alloc (.cells vs.toArray e))∧m.toNat≤maxLen∧vs.length=m.toNat*sz∧(∀c∈List.replicate m.toNat (zc.map jg),c.length=sz)∧(∀v∈vs,v.oneCell'=true) ∧
   ∀(j:Nat) (c:c6),(List.replicate m.toNat (zc.map jg))[j]?=some c→∀(i:Nat) (x:AV),c[i]?=some x→∃v,vs[j*sz+i]?=some v∧Rel N w bG x v:=by
 simp only[fA,iN,q7]at D;obtain⟨H,I,J⟩:=D;unfold jS at d;split at d
 case h_2=>cases d
 rename_i K B;split at d
 case h_2=>cases d
 rename_i b r;split at d
 case h_2=>cases d
 rename_i z s;split at d
 case isFalse=>cases d
 rename_i g;injection d with d;injection d with L d;injection d with M O
 subst L;subst M;subst O;have C:mX z.cells.toList=some zc:=by simpa[eZ,r,s]using R
 have a:=(nc N w bG C);have A:=a.pz;have p:=Nr w T K b z B r s kd kd' m H I J g.2;have f:zc.length=b.size:=by rw[a.len,← g.1];simp
 have h:∀q,q<m.toNat*b.size→((Array.range (m.toNat*b.size)).map (z.cells[· % z.cells.size]!)).toList[q]?=z.cells.toList[q % b.size]?:=fun q k=>by
  have F:q % b.size<z.cells.size:=by rw[g.1];exact Nat.mod_lt _ g.2
  simp[k,g.1];rw[amq z.cells (q % b.size) F,la F]
 refine⟨((Array.range (m.toNat*b.size)).map (z.cells[· % z.cells.size]!)).toList,by rw[afM];exact p,by unfold maxLen;omega,by simp,fun c Q=>?_,fun v t=>?_,fun j c n i x G=>?_⟩
 ·rw[(List.mem_replicate.1 Q).2,nx,f]
 ·obtain⟨q,k⟩:=akW t;have y:q<m.toNat*b.size:=by have:=(jf.1 k).1;simpa using this
  rw[h q y]at k;exact a.one v (mm k)
 ·rw[akN]at n;split at n
  ·rename_i u;injection n with n;subst n
   have E:i<b.size:=by have:=(jf.1 G).1;rw[nx,f]at this;exact this
   have k:j*b.size+i<m.toNat*b.size:=by
    have:(j+1)*b.size≤m.toNat*b.size:=abM _ u;rw[akt,akU]at this;omega
   have o:(j*b.size+i) % b.size=i:=by rw[ak6,Nat.mul_add_mod,ak1 E]
   rw[h _ k,o];have t:=jt (l:=z.cells.toList) (i:=i) (by rw[←a.len,f];exact E);exact⟨_,t,A.rel i x _ G t⟩
  ·cases n
def uR(P:Program)(s:AS)(T:TypeId)(x y:Operand):Option AV :=
 match s.ev x,s.ev y,jS P T with
 | some (.int _ m),some (.int _ a),some (e,_,bytes)=>match eZ P e with
  | some zc=>if m=a∧fA m bytes=true then some (.sl (List.replicate m.toNat (zc.map jg))) else none
  | none=>none
 | _,_,_=>none
theorem acY{c:Cx}{s:AS}{a:Act}{w:World}{ι:Env}(g:aU c s a w ι){T:TypeId}{x y:Operand}{v:AV}(h:uR c.P s T x y=some v):
  ∃X w',(Instr.makeSlice T (a.eval x) (a.eval y)).run c.P w=.ok X w'∧aU c s a w' ι∧Rel (NN c.M ι) w' ι v X:=by
 unfold uR at h;split at h
 case h_2=>cases h
 rename_i kd m kd' q e sz bytes k l j;split at h
 case h_2=>cases h
 rename_i zc n;split at h
 case isFalse=>cases h
 rename_i i;obtain⟨rfl,d⟩:=i;injection h with h;subst h
 obtain⟨vs,f,r,t,o,p,q5⟩:=Tr (P:=c.P) (N:=NN c.M ι) w j n d kd kd';refine⟨_,_,by rw[l7 g k,l7 g l];exact f,?_,?_⟩
 ·exact g.world (g.hs.fresh _) rfl (by simp) (fun b _ d=>d) (fun b d _=>u4 _ _ _ d) (fun _ _ h=>h)
 ·have:=Lv (T:=e) g.hs o p q5;simpa using this
theorem HS.Yr{M:Nat→Prop}{w0:aA}{w:World}{ι:Env}{s:AS}(h:HS M w0 w ι s){id g n c:Nat}{ar:co}{l':hZ}{xs':ee}{m:Array Value}{T:TypeId}
  (V:look id s.r=some ar) (t:ι id=some (.slice (some ⟨g,0,none⟩) n c)) (hg:w.heap[g]?=some (.cells m T (0,0))) (P:l'.length=ar.l.length) (hz:∀e∈l',e.length=ar.sz) (N:xs'.length=ar.l.length*ar.sz) (E:∀x∈xs',x.oneCell'=true)
  (hc:∀(j:Nat) (e:c6),l'[j]?=some e→∀(i:Nat) (c:AV),e[i]?=some c→∃x,xs'[j*ar.sz+i]?=some x∧gG (NN M ι) w (TG≤id) (ι (nm id (j*ar.sz+i))) c x) :
  HS M w0 (w.setRow g (xs'++m.toList.drop xs'.length).toArray) ι ({ s with r:=bm id { ar with l:=l' } s.r }):=by
 obtain⟨v,xs,O,e2,e3,e4,e5⟩:=h.arrs id ar V (by rw[t];rfl);rw[t]at O;injection O with O;subst O
 have q:bz (ι id)=some g:=by rw[t];rfl
 obtain⟨hv,_⟩|⟨D,f0,e0,hv,p,d,J,H,o,a0⟩:=e2.2
 ·cases hv
 injection hv with G hn W
 injection G with G;injection G with G;subst G;subst W
 rw[hg]at d;injection d with d;injection d with q1 q2 q3;subst q1;subst q2
 have z:ar.l.length*ar.sz≤c*ar.sz:=abM _ J;generalize hC:(xs'++m.toList.drop xs'.length).toArray=C;have Q:∀b,b<w.heap.size→¬ NN M ι b→(w.setRow g C).heap[b]?=w.heap[b]?:=fun b _ p=>eP (fun e=>p (.inr ⟨id,by rw[e];exact q⟩));obtain⟨L,g0⟩:=h.own id g q;refine⟨?_,h.old,h.use,fun i k I=>?_,h.inj,h.ko,fun i a f=>?_,fun i cs f hp=>?_,fun i a f hp=>?_,h.pin⟩
 ·exact h.below.trans ⟨rfl,rfl,rfl,by simp,fun k I hG=>eP (fun e=>by subst e;rcases L with L|L;exact Nat.lt_irrefl _ (u7 I L);exact hG L)⟩
 ·have:=h.own i k I;simp;exact this
 ·simp only[cv]at f;by_cases B:i=id
  ·subst B;exact h.use i _ t
  ·rw[kb B]at f;exact h.kr i a f
 ·obtain⟨D,T',c0,E,u,y⟩:=h.objs i cs f hp;have Z:D≠g:=fun R=>by
   have:=h.inj i id g (by rw[E,R];rfl) q;subst this;rw[E]at t;cases t
  exact⟨D,T',c0,E,(eP Z).trans u,y.mono (by simp) (fun b _ p=>p) Q (fun _ _ h=>h)⟩
 ·simp only[cv]at f;by_cases B:i=id
  ·subst B;rw[lc rfl]at f;injection f with f;subst f
   have K:xs'.length≤m.toList.length:=by rw[N,If,o];exact z
   refine⟨_,xs',t,⟨by simpa[P]using N,.inr ⟨g,c,C,by simp[hn,P],p,amt w g m _ _ _ hg,by simpa[P]using J,H,?_,?_⟩⟩,hz,E,fun j e X k c' I=>?_⟩
   ·rw[←hC];simp only[alO,nw,aku];rw[←Nat.add_sub_assoc K,alV,If];exact o
   ·rw[←hC];simp only[P,← N];rw[List.take_left'];rfl
   ·obtain⟨x,b0,hr⟩:=hc j e X k c' I;exact⟨x,b0,hr.mono (by simp) (fun b _ p=>p) Q (fun _ h=>h) (fun r A=>eP (fun e=>h.nV A t (fun _ e=>by cases e) (by rw[e];rfl))) (fun h=>h)⟩
  ·rw[kb B]at f;obtain⟨v',d0,F,u,y,S,U⟩:=h.arrs i a f hp;refine⟨v',d0,F,fR u (fun D d=>eP ?_),y,S,fun j el X k c Y=>?_⟩
   ·intro R;subst R;exact B (h.inj i id D (by rw[F];exact d) q)
   ·obtain⟨x,N,hr⟩:=U j el X k c Y;exact⟨x,N,hr.mono (by simp) (fun b _ p=>p) Q (fun _ h=>h) (fun r A=>eP (fun e=>h.nV A t (fun _ e=>by cases e) (by rw[e];rfl))) (fun h=>h)⟩
def mb{α:Type}(L:List α)(off m:Nat)(S:List α)(a b:Nat):List α:=List.take off L++(List.take (min b m) (List.drop a S)++List.drop (off+min b m) L)
def NE(off m n a b c:Nat):Bool:=decide (off+m≤n)&&decide (a+b≤c)
theorem aht{α:Type}(L:List α) off m S a b(c:off+m≤L.length)(d:a+b≤S.length):(mb L off m S a b).length=L.length:=by
 grind[mb]
theorem X8{α:Type}(L:List α)(off m:Nat)(S:List α)(a b:Nat)(e:off+m≤L.length)(f:a+b≤S.length)(j:Nat):(mb L off m S a b)[j]?=if j<off then L[j]? else if j<off+min b m then S[a+(j-off)]? else L[j]?:=by
 have c:(List.take off L).length=off:=by grind
 have d:(List.take (min b m) (List.drop a S)).length=min b m:=by grind
 grind[mb]
section
variable{d:Cx}{s:AS}
def oe(s:AS):AV→Option (Nat×TypeId×hZ×Option es)
 | .ref id=>match look id s.r with|some ⟨a,sz,l⟩=>(match Nat.beq sz 1&&Nat.ble (id+1) TG with|true=>some (id,a,l,none)|false=>none)|none=>none
 | .sref id sz off m=>match look id s.r with|some ⟨a,b,l⟩=>(match (Nat.beq sz 1&&Nat.beq b 1)&&Nat.ble (id+1) TG with|true=>some (id,a,l,some (off,m))|false=>none)|none=>none
 | _=>none
def ug(s:AS):AV→Option (hZ×Option es)
 | .sl l=>some (l,none)
 | v=>(oe s v).map fun x=>(x.2.2.1,x.2.2.2)
def fw(o:Option es)(n:Nat):Nat×Nat:=match o with|some q=>q|none=>(0,n)
theorem LV{a:Act}{w:World}{ι:Env}(R:aU d s a w ι){u:AV}{X:Value}(I:Rel (NN d.M ι) w ι u X){id:Nat}{G:TypeId}{l:hZ}{J:Option es}(h:oe s u=some (id,G,l,J)){off m:Nat}(q:fw J l.length=(off,m)):
  id<TG∧look id s.r=some ⟨G,1,l⟩∧∃B k,X=.slice B m k∧((m=0∧(B=none→k=0∨True))∨∃g n c,ι id=some (.slice (some ⟨g,0,none⟩) n c)∧B=some ⟨g,off,none⟩)∧(B=none∨∃a,B=some a):=by
 have x:∀B:Option Addr,B=none∨∃a,B=some a:=fun B=>by cases B with|none=>exact .inl rfl|some a=>exact .inr ⟨a,rfl⟩
 unfold oe at h;split at h
 ·split at h
  case h_2=>cases h
  rename_i r sz l' p;split at h
  case h_2=>cases h
  rename_i b;rw[iN]at b;have f:=j3 b.2;have b:=mo b.1;simp only[rv,w3]at h;obtain⟨rfl,rfl,rfl,rfl⟩:=h;subst b;simp only[fw,w3]at q;obtain⟨rfl,rfl⟩:=q;refine⟨f,p,?_⟩;cases I with
  | ref _ _ A n c j =>
   obtain⟨v,xs,o,L,T,U,V⟩:=R.hs.arrs _ _ p (by rw[j];rfl);rw[j]at o;injection o with o;subst o
   obtain⟨E,i⟩|⟨M,K,F,E,W,P,Q,H,C,D⟩:=L.2
   ·injection E with t z e
    subst t;subst z;subst e;exact⟨none,0,by simp only[]at i⊢;rw[i],.inl ⟨i,fun _=>.inl rfl⟩,x _⟩
   ·injection E with t z e
    subst t;subst z;subst e;exact⟨_,c,rfl,.inr ⟨M,_,c,j,rfl⟩,x _⟩
 ·split at h
  case h_2=>cases h
  rename_i r S l' p;split at h
  case h_2=>cases h
  rename_i b;rw[iN,iN]at b;have f:=j3 b.2;have N:=mo b.1.1;have O:=mo b.1.2;simp only[rv,w3]at h;obtain⟨rfl,rfl,rfl,rfl⟩:=h;subst N;subst O;simp only[fw,w3]at q;obtain⟨rfl,rfl⟩:=q;refine⟨f,p,?_⟩;cases I with
  | sref _ _ _ _ _ n c k A B j y =>
   refine⟨B,k,rfl,?_,x _⟩;rcases y with i|⟨g,rfl,rfl,_⟩
   ·exact .inl ⟨i,fun _=>.inr trivial⟩
   ·exact .inr ⟨g,n,c,j,by simp⟩
 grind
theorem afu{a:Act}{w:World}{ι:Env}(N:aU d s a w ι){u:AV}{X:Value}(o:Rel (NN d.M ι) w ι u X){l:hZ}{R:Option es}(h:ug s u=some (l,R)){off m:Nat}(M:fw R l.length=(off,m))(Q:∀e∈l,e.length=1)(W:off+m≤l.length):
  ∃A t,X=.slice A m t∧∀k,k≤m→k=0∨∃(p:Addr) (vs:ee),A=some p∧vs.length=k∧(∀(j:Nat) (u:Value),vs[j]?=some u→w.cell? (p.add j)=some u)∧(∀x∈vs,x.oneCell'=true)∧∀(j:Nat),j<k→∀(e:c6),l[off+j]?=some e→∀(i:Nat) (c:AV),e[i]?=some c→∃y,vs[j*1+i]?=some y∧Rel (NN d.M ι) w bG c y:=by
 have S:∀{id:Nat} {H:TypeId},oe s u=some (id,H,l,R)→∃A t,X=.slice A m t∧∀k,k≤m→k=0∨∃(p:Addr) (vs:ee),A=some p∧vs.length=k∧(∀(j:Nat) (u:Value),vs[j]?=some u→w.cell? (p.add j)=some u)∧(∀x∈vs,x.oneCell'=true)∧∀(j:Nat),j<k→∀(e:c6),l[off+j]?=some e→∀(i:Nat) (c:AV),e[i]?=some c→∃y,vs[j*1+i]?=some y∧Rel (NN d.M ι) w bG c y:=fun {id H} z=>by
  obtain⟨a0,hl,B,t,rfl,hB,_⟩:=LV N o z M;refine⟨B,t,rfl,fun k K=>?_⟩;obtain⟨V,_⟩|⟨g,n,c,Y,rfl⟩:=hB
  ·exact .inl (by omega)
  ·right;obtain⟨v,xs,E,T,e3,Z,G⟩:=N.hs.arrs _ _ hl (by rw[Y];rfl);have U:∀(j:Nat) (e:c6),l[j]?=some e→∀(i:Nat) (c:AV),e[i]?=some c→∃x,xs[j*1+i]?=some x∧Rel (NN d.M ι) w bG c x:=fun j e f i c I=>by
    obtain⟨x,D,o⟩:=G j e f i c I;exact⟨x,D,o.flat (by omega)⟩
   rw[Y]at E;injection E with E;subst E
   have r:=T.cells (g:=g) rfl;have O:=T.1;simp only[ame]at O U;refine⟨⟨g,off,none⟩,(xs.drop off).take k,rfl,by rw[ajN,aku];omega,fun j y b=>?_,fun x D=>Z x (IN (wl D)),fun j b e f i c C=>?_⟩
   ·rw[In]at b;split at b
    ·rw[ac9]at b;have:=r _ _ b;rw[aix]at this⊢;rw[Dy]at this;exact this
    ·cases b
   ·have J:i=0:=by
     have F:=(jf.1 C).1;rw[Q e (mm f)]at F;omega
    obtain⟨y,P,o⟩:=U _ e f i c C;refine⟨y,?_,o⟩;rw[In,lc (by omega),ac9,ame,← ak7];exact P
 unfold ug at h;split at h
 ·rename_i l';simp only[rv,w3]at h;obtain⟨rfl,rfl⟩:=h;simp only[fw,w3]at M;obtain⟨rfl,rfl⟩:=M;have L:nr s 1 (.sl l')=some l':=by
   have ha:l'.all (fun e=>e.length == 1)=true:=ne.2 fun e f=>by simp[Q e f]
   simp only[nr,ha,zt]
  obtain⟨A,c,rfl,_,I⟩:=Nj N L o;refine⟨A,c,rfl,fun k K=>?_⟩;by_cases V:k=0
  ·exact .inl V
  rcases I with rfl|⟨p,vs,rfl,F,h3,h4,h5⟩
  ·simp at K;exact .inl K
  ·refine .inr ⟨p,vs.take k,rfl,by rw[ajN];omega,fun j y b=>?_,fun x D=>h4 x (wl D),fun j b e f i c C=>?_⟩
   ·rw[In]at b;split at b
    ·exact h3 j y b
    ·cases b
   ·have J:i=0:=by
     have F:=(jf.1 C).1;rw[Q e (mm f)]at F;omega
    rw[Dy]at f;obtain⟨y,P,o⟩:=h5 j e f i c C;exact⟨y,by rw[In,lc (by omega)];exact P,o⟩
 ·cases z:oe s u with
  | none=>rw[z]at h;cases h
  | some q =>
   obtain⟨id,H,l',b0⟩:=q;rw[z]at h;simp only[aaU,rv,w3]at h;obtain⟨rfl,rfl⟩:=h;exact S z
def wh(P:Program)(s:AS)(T:TypeId)(u v:AV):Option (AS×AV) :=
 match gu P T,oe s u,ug s v with
 | some (f,sz),some (id,d,l,b),some (a,c) =>
  if sz=1∧f=d∧(∀e∈l,e.length=1)∧(∀e∈a,e.length=1)∧NE (fw b l.length).1 (fw b l.length).2 l.length (fw c a.length).1 (fw c a.length).2 a.length=true then
   some ({ s with r:=bm id ⟨f,1,mb l (fw b l.length).1 (fw b l.length).2 a (fw c a.length).1 (fw c a.length).2⟩ s.r },.int .i64 (min (fw c a.length).2 (fw b l.length).2:Nat)) else none
 | _,_,_=>none
theorem aih{a:Act}{w:World}{ι:Env}(f:aU d s a w ι){T T' ty:TypeId}{u v r:AV}{s':AS}(h:wh d.P s T u v=some (s',r)){X Y:Value}(o0:Rel (NN d.M ι) w ι u X)(p0:Rel (NN d.M ι) w ι v Y):
  ∃y w',(Builtin.copy_ #[T,T'] ty #[X,Y]).run d.P w=.ok y w'∧aU d s' a w' ι∧Rel (NN d.M ι) w' ι r y:=by
 unfold wh at h;split at h
 case h_2=>cases h
 rename_i et sz id a1 l od Z os J hu hv;split at h
 case isFalse=>cases h
 rename_i M;obtain⟨c1,c2,hz,V,hc⟩:=M;subst c1;subst c2;injection h with h;injection h with W e2;subst W;subst e2
 generalize e0:(fw od l.length).1=off at *;generalize w0:(fw od l.length).2=m at *;generalize O:(fw os Z.length).1=o at *;generalize d0:(fw os Z.length).2=D at *;have ho:fw od l.length=(off,m):=by rw[←e0,← w0]
 have x0:fw os Z.length=(o,D):=by rw[←O,← d0]
 simp only[NE,iN,q7]at hc;obtain⟨a0,L⟩:=hc;obtain⟨f1,F,B,c',rfl,hB,b1⟩:=LV (off:=off) (m:=m) f o0 hu ho;obtain⟨A,c2,rfl,s0⟩:=afu (off:=o) (m:=D) f p0 hv x0 V L;unfold gu at J;split at J
 case h_2=>cases J
 rename_i e' C;cases p:d.P.info? e' with
 | none=>simp[cC,p]at J
 | some ie =>
  simp only[cC,p,aaU,rv,w3]at J;obtain⟨rfl,f0⟩:=J;have q:Nat.min D m=min D m:=rfl;by_cases K:min D m=0
  ·-- nothing is copied
   have hL:mb l off m Z o D=l:=by unfold mb;rw[K];simp
   have t:(Builtin.copy_ #[T,T'] ty #[.slice B m c',.slice A D c2]).run d.P w=.ok (goInt 0) w:=by
    have l0:∀a:Addr,(loadCells a 0).run d.P w=.ok #[] w:=fun a=>by simp[loadCells,loadCellsFrom]
    cases A with
    | none=>cases B with
     | none=>simp[Builtin.copy_,pt C,Builtin.lenOf,Builtin.firstCells,sizeOf,typeInfo,p,q,K]
     | some b=>simp[Builtin.copy_,pt C,Builtin.lenOf,Builtin.firstCells,sizeOf,typeInfo,p,q,K,storeCells]
    | some a=>cases B with
     | none=>simp[Builtin.copy_,pt C,Builtin.lenOf,Builtin.firstCells,sizeOf,typeInfo,p,q,K,l0]
     | some b=>simp[Builtin.copy_,pt C,Builtin.lenOf,Builtin.firstCells,sizeOf,typeInfo,p,q,K,l0,storeCells]
   rw[hL,K];have Q:aU d { s with r:=bm id ⟨e',1,l⟩ s.r } a w ι:=by
    refine⟨⟨f.hs.below,f.hs.old,f.hs.use,f.hs.own,f.hs.inj,f.hs.ko,fun j ar k=>?_,f.hs.objs,fun j ar k hp=>?_,f.hs.pin⟩,f.dfr,f.n,f.tmp⟩
    ·simp only[cv]at k;split at k
     ·rename_i e;subst e;exact f.hs.kr j _ F
     ·exact f.hs.kr j ar k
    ·simp only[cv]at k;split at k
     ·rename_i e;subst e;injection k with k;subst k;exact f.hs.arrs j _ F hp
     ·exact f.hs.arrs j ar k hp
   exact⟨_,w,t,Q,.int _ _ _⟩
  ·rcases s0 (min D m) (Nat.min_le_left _ _)with m0|⟨ad,vs,rfl,i0,y0,g0,A0⟩
   ·exact absurd m0 K
   obtain⟨d1,_⟩|⟨g,n,c,hι,rfl⟩:=hB
   ·omega
   obtain⟨v1,xs,W,e2,e3,e4,e5⟩:=f.hs.arrs _ _ F (by rw[hι];rfl);rw[hι]at W;injection W with W;subst W
   obtain⟨S,_⟩|⟨g',T0,i,S,hb,b0,v0,S0,R,z⟩:=e2.2
   ·cases S
   injection S with hA hn r0
   injection hA with hA;injection hA with hA;subst hA;subst r0
   have k0:=e2.1;simp only[ame]at k0 R z v0 hn e5;have H:off+vs.length≤i.size:=by omega
   have t:=run_copy_row (P:=d.P) w T T' ty e' g off m c' ad D c2 i e' vs C (by rw[p];simp[f0]) b0 i0 y0 H g0;have U:(xs.take off++vs++xs.drop (off+vs.length)).length=l.length:=by rw[oP _ _ _ (by omega)];exact k0
   have hC:i.toList.take off++vs++i.toList.drop (off+vs.length)=(xs.take off++vs++xs.drop (off+vs.length))++i.toList.drop (xs.take off++vs++xs.drop (off+vs.length)).length:=by
    apply akK;intro j;have J:∀j,xs[j]?=if j<l.length then i.toList[j]? else none:=fun j=>by rw[←z,In]
    rw[kX _ _ _ (by rw[If];exact H),U];by_cases k:j<l.length
    ·rw[z3 (by omega),kX _ _ _ (by omega),J j,lc k]
    ·rw[Dj (by omega),U,ac9,kb (by omega),kb (by omega)];congr 1;omega
   have I:=f.hs.Yr (l':=mb l off m Z o D) (xs':=xs.take off++vs++xs.drop (off+vs.length)) F hι b0 (by rw[aht _ _ _ _ _ _ a0 L]) (fun e he=>by
     unfold mb at he;rcases n5.1 he with he|he
     ·exact hz e (wl he)
     ·rcases n5.1 he with he|he
      ·exact V e (IN (wl he))
      ·exact hz e (IN he)) (by simpa using U) (fun x G=>by
     rcases n5.1 G with G|G
     ·rcases n5.1 G with G|G
      ·exact e4 x (wl G)
      ·exact g0 x G
     ·exact e4 x (IN G)) (fun j e he i' c0 E=>by
     rw[X8 _ _ _ _ _ _ a0 L]at he;simp only[ame];have N:e.length=1→i'=0:=fun hm=>by
      have h2:=(jf.1 E).1;omega
     split at he
     ·rename_i k;have:=N (hz e (mm he));subst this;rw[kX _ _ _ (by omega),akF,lc k];have:=e5 j e he 0 c0 E;simpa using this
     ·rename_i k;split at he
      ·rename_i t0;have:=N (V e (mm he));subst this;rw[kX _ _ _ (by omega),akF,kb k,lc (by omega)];obtain⟨y,hy,hr⟩:=A0 (j-off) (by omega) e (by simpa using he) 0 c0 E;exact⟨y,by simpa using hy,.inl hr⟩
      ·rename_i t0;have:=N (hz e (mm he));subst this;rw[kX _ _ _ (by omega),akF,kb k,kb (by omega)];have:=e5 j e he 0 c0 E;simpa using this)
   rw[←hC]at I;have q0:bz (ι id)=some g:=by rw[hι];rfl
   have Q:aU d { s with r:=bm id ⟨e',1,mb l off m Z o D⟩ s.r } a (w.setRow g (i.toList.take off++vs++i.toList.drop (off+vs.length)).toArray) ι :=
    f.world I rfl (by simp) (fun b _ hb=>hb) (fun b _ hb=>eP (fun e=>hb (.inr ⟨id,by rw[e];exact q0⟩))) (fun _ _ h=>h)
   refine⟨_,_,t,Q,?_⟩;rw[i0];exact .int _ _ _
end
end Go.Proofs.YtocgkfoifehcbaaGreat

/- copy on abstract values. No program in sight. -/
import Derived.Test.YtocgkfoifehcbaaGreatRtAapp
import Derived.Test.YtocgkfoifehcbaaGreatRtAx
namespace Go.Proofs.YtocgkfoifehcbaaGreat
set_option linter.all false
open Go.RowKit
def j3:=@Nat.le_of_ble_eq_true
def n3:=@Nat.eq_of_beq_eq_true
def q7:=@decide_eq_true_eq
def AT:=@if_true
def ahP:=@List.length_drop
def akB:=@List.getElem?_replicate
def akE:=@IntKind.wrap_i64
def akI:=@List.getElem?_of_mem
def alC:=@Nat.add_sub_cancel_left
def alM:=@Int.mul_comm
def alY:=@Nat.mul_one
def al9:=@getElem!_pos
theorem Me:Array.range 0 = #[]:=rfl
def fB(n:Int)(bytes:Nat):Bool:=decide (0≤n)&&(decide (n≤9223372036854775807)&&decide (n.toNat*bytes≤140737488355328))
theorem S7{P:Program}(w:World)(t e:TypeId)(i:TypeInfo)(z:Value)(f:P.underlying t=some (.slice e))(c:P.info? e=some i)(m:i.zero=some z)
  (kl n:IntKind) (l:Int) (g:0≤l) (j:l≤9223372036854775807) (b:l.toNat*i.bytes≤140737488355328) (d:0<i.size) :
  (Instr.makeSlice t (.int kl l) (.int n l)).run P w=.ok (.slice (some ⟨w.heap.size,0,none⟩) l.toNat l.toNat) (w.alloc (.cells ((Array.range (l.toNat*i.size)).map (z.cells[· % z.cells.size]!)) e)):=by
 have r:IntKind.i64.wrap l=l:=by rw[akE];omega
 have o:¬ l<0:=by omega
 have p:¬ (281474976710656<(i.bytes:Int)*l):=by
  have:(i.bytes:Int)*l=((l.toNat*i.bytes:Nat):Int):=by
   rw[Int.natCast_mul,Int.toNat_of_nonneg g,alM]
  omega
 have q:¬ (140737488355328<l.toNat*i.bytes):=by omega
 by_cases k:l.toNat*i.size=0
 ·have a:l.toNat=0:=by
   rcases Nat.mul_eq_zero.1 k with h|h
   ·exact h
   ·omega
  simp[Instr.makeSlice,qk f,asInt,asIntOf,typeInfo,c,sizeOf,r,o,p,q,newRow,askRoom,roomBytes,a,Me]
 ·simp[Instr.makeSlice,qk f,asInt,asIntOf,typeInfo,c,sizeOf,zeroValue,m,newRow]
  grind
theorem LH{P:Program}{N:Nat→Prop}(w:World){T e:TypeId}{sz bytes:Nat}{m:Int}{zc:c6}(d:jg P T=some (e,sz,bytes))(R:fe P e=some zc)(D:fB m bytes=true)(kd kd':IntKind):
  ∃vs:ee,(Instr.makeSlice T (.int kd m) (.int kd' m)).run P w=.ok (.slice (some ⟨w.heap.size,0,none⟩) m.toNat m.toNat) (w.alloc (.cells vs.toArray e))∧m.toNat≤maxLen∧vs.length=m.toNat*sz∧(∀c∈List.replicate m.toNat (zc.map iX),c.length=sz)∧(∀v∈vs,v.oneCell'=true) ∧
   ∀(j:Nat) (c:c6),(List.replicate m.toNat (zc.map iX))[j]?=some c→∀(i:Nat) (x:AV),c[i]?=some x→∃v,vs[j*sz+i]?=some v∧Rel N w bG x v:=by
 simp only[fB,iO,q7]at D;obtain⟨H,I,J⟩:=D;unfold jg at d;split at d
 case h_2=>cases d
 rename_i K B;split at d
 case h_2=>cases d
 rename_i b r;split at d
 case h_2=>cases d
 rename_i z s;split at d
 case isFalse=>cases d
 rename_i g;injection d with d;injection d with L d;injection d with M O
 subst L;subst M;subst O;have C:ms z.cells.toList=some zc:=by simpa[fe,r,s]using R
 have a:=(mX N w bG C);have A:=a.pz;have p:=S7 w T K b z B r s kd kd' m H I J g.2;have f:zc.length=b.size:=by rw[a.len,← g.1];simp
 have h:∀q,q<m.toNat*b.size→((Array.range (m.toNat*b.size)).map (z.cells[· % z.cells.size]!)).toList[q]?=z.cells.toList[q % b.size]?:=fun q k=>by
  have F:q % b.size<z.cells.size:=by rw[g.1];exact Nat.mod_lt _ g.2
  simp[k,g.1];rw[al9 z.cells (q % b.size) F,la F]
 refine⟨((Array.range (m.toNat*b.size)).map (z.cells[· % z.cells.size]!)).toList,by rw[ain];exact p,by unfold maxLen;omega,by simp,fun c Q=>?_,fun v t=>?_,fun j c n i x G=>?_⟩
 ·rw[(List.mem_replicate.1 Q).2,nx,f]
 ·obtain⟨q,k⟩:=akI t;have y:q<m.toNat*b.size:=by have:=(jt.1 k).1;simpa using this
  rw[h q y]at k;exact a.one v (mm k)
 ·rw[akB]at n;split at n
  ·rename_i u;injection n with n;subst n
   have E:i<b.size:=by have:=(jt.1 G).1;rw[nx,f]at this;exact this
   have k:j*b.size+i<m.toNat*b.size:=by
    have:(j+1)*b.size≤m.toNat*b.size:=OR _ u;rw[aiA,akw]at this;omega
   have o:(j*b.size+i) % b.size=i:=by rw[akR,Nat.mul_add_mod,akL E]
   rw[h _ k,o];have t:=kb (l:=z.cells.toList) (i:=i) (by rw[←a.len,f];exact E);exact⟨_,t,A.rel i x _ G t⟩
  ·cases n
def ut(P:Program)(s:AS)(T:TypeId)(x y:Operand):Option AV :=
 match s.ev x,s.ev y,jg P T with
 | some (.int _ m),some (.int _ a),some (e,_,bytes)=>match fe P e with
  | some zc=>if m=a∧fB m bytes=true then some (.sl (List.replicate m.toNat (zc.map iX))) else none
  | none=>none
 | _,_,_=>none
theorem aj4{c:Cx}{s:AS}{a:Act}{w:World}{ι:Env}(g:aV c s a w ι){T:TypeId}{x y:Operand}{v:AV}(h:ut c.P s T x y=some v):
  ∃X w',(Instr.makeSlice T (a.eval x) (a.eval y)).run c.P w=.ok X w'∧aV c s a w' ι∧Rel (NN c.M ι) w' ι v X:=by
 unfold ut at h;split at h
 case h_2=>cases h
 rename_i kd m kd' q e sz bytes k l j;split at h
 case h_2=>cases h
 rename_i zc n;split at h
 case isFalse=>cases h
 rename_i i;obtain⟨rfl,d⟩:=i;injection h with h;subst h
 obtain⟨vs,f,r,t,q3,o,p⟩:=LH (P:=c.P) (N:=NN c.M ι) w j n d kd kd';refine⟨_,_,by rw[lU g k,lU g l];exact f,?_,?_⟩
 ·exact g.world (g.hs.fresh _) rfl (by simp) (fun b _ d=>d) (fun b d _=>u7 _ _ _ d) (fun _ _ h=>h)
 ·have:=PG (T:=e) g.hs q3 o p;simpa using this
theorem HS.MM{M:Nat→Prop}{w0:aC}{w:World}{ι:Env}{s:AS}(h:HS M w0 w ι s){id g n c:Nat}{ar:cg}{l':h7}{xs':ee}{m:Array Value}{T:TypeId}
  (V:look id s.r=some ar) (t:ι id=some (.slice (some ⟨g,0,none⟩) n c)) (hg:w.heap[g]?=some (.cells m T (0,0))) (P:l'.length=ar.l.length) (hz:∀e∈l',e.length=ar.sz) (N:xs'.length=ar.l.length*ar.sz) (E:∀x∈xs',x.oneCell'=true)
  (hc:∀(j:Nat) (e:c6),l'[j]?=some e→∀(i:Nat) (c:AV),e[i]?=some c→∃x,xs'[j*ar.sz+i]?=some x∧gz (NN M ι) w (TG≤id) (ι (nm id (j*ar.sz+i))) c x) :
  HS M w0 (w.setRow g (xs'++m.toList.drop xs'.length).toArray) ι ({ s with r:=bi id { ar with l:=l' } s.r }):=by
 obtain⟨v,xs,O,e2,e3,e4,e5⟩:=h.arrs id ar V (by rw[t];rfl);rw[t]at O;injection O with O;subst O
 have q:br (ι id)=some g:=by rw[t];rfl
 obtain⟨hv,_⟩|⟨D,f0,e0,hv,p,d,J,H,o,a0⟩:=e2.2
 ·cases hv
 injection hv with G hn W
 injection G with G;injection G with G;subst G;subst W
 rw[hg]at d;injection d with d;injection d with q1 q2 q3;subst q1;subst q2
 have z:ar.l.length*ar.sz≤c*ar.sz:=OR _ J;generalize hC:(xs'++m.toList.drop xs'.length).toArray=C;have Q:∀b,b<w.heap.size→¬ NN M ι b→(w.setRow g C).heap[b]?=w.heap[b]?:=fun b _ p=>eC (fun e=>p (.inr ⟨id,by rw[e];exact q⟩));obtain⟨L,g0⟩:=h.own id g q;refine⟨?_,h.old,h.use,fun i k I=>?_,h.inj,h.ko,fun i a f=>?_,fun i cs f hp=>?_,fun i a f hp=>?_,h.pin⟩
 ·exact h.below.trans ⟨rfl,rfl,rfl,by simp,fun k I hG=>eC (fun e=>by subst e;rcases L with L|L;exact al6 _ (wl I L);exact hG L)⟩
 ·have:=h.own i k I;simp;exact this
 ·simp only[cq]at f;by_cases B:i=id
  ·subst B;exact h.use i _ t
  ·rw[kc B]at f;exact h.kr i a f
 ·obtain⟨D,T',c0,E,u,y⟩:=h.objs i cs f hp;have Z:D≠g:=fun R=>by
   have:=h.inj i id g (by rw[E,R];rfl) q;subst this;rw[E]at t;cases t
  exact⟨D,T',c0,E,(eC Z).trans u,y.mono (by simp) (fun b _ p=>p) Q (fun _ _ h=>h)⟩
 ·simp only[cq]at f;by_cases B:i=id
  ·subst B;rw[ll rfl]at f;injection f with f;subst f
   have K:xs'.length≤m.toList.length:=by rw[N,DO,o];exact z
   refine⟨_,xs',t,⟨by simpa[P]using N,.inr ⟨g,c,C,by simp[hn,P],p,amc w g m _ _ _ hg,by simpa[P]using J,H,?_,?_⟩⟩,hz,E,fun j e X k c' I=>?_⟩
   ·rw[←hC];simp only[alv,ne,ahP];rw[←Nat.add_sub_assoc K,alC,DO];exact o
   ·rw[←hC];simp only[P,← N];rw[List.take_left'];rfl
   ·obtain⟨x,b0,hr⟩:=hc j e X k c' I;exact⟨x,b0,hr.mono (by simp) (fun b _ p=>p) Q (fun _ h=>h) (fun r A=>eC (fun e=>h.oV A t (fun _ e=>by cases e) (by rw[e];rfl))) (fun h=>h)⟩
  ·rw[kc B]at f;obtain⟨v',d0,F,u,y,S,U⟩:=h.arrs i a f hp;refine⟨v',d0,F,fO u (fun D d=>eC ?_),y,S,fun j el X k c Y=>?_⟩
   ·intro R;subst R;exact B (h.inj i id D (by rw[F];exact d) q)
   ·obtain⟨x,N,hr⟩:=U j el X k c Y;exact⟨x,N,hr.mono (by simp) (fun b _ p=>p) Q (fun _ h=>h) (fun r A=>eC (fun e=>h.oV A t (fun _ e=>by cases e) (by rw[e];rfl))) (fun h=>h)⟩
def lX{α:Type}(L:List α)(off m:Nat)(S:List α)(a b:Nat):List α:=List.take off L++(List.take (min b m) (List.drop a S)++List.drop (off+min b m) L)
def Ol(off m n a b c:Nat):Bool:=decide (off+m≤n)&&decide (a+b≤c)
theorem afg{α:Type}(L:List α) off m S a b(c:off+m≤L.length)(d:a+b≤S.length):(lX L off m S a b).length=L.length:=by
 grind[lX]
theorem agm{α:Type}(L:List α)(off m:Nat)(S:List α)(a b:Nat)(e:off+m≤L.length)(f:a+b≤S.length)(j:Nat):(lX L off m S a b)[j]?=if j<off then L[j]? else if j<off+min b m then S[a+(j-off)]? else L[j]?:=by
 have c:(List.take off L).length=off:=by grind
 have d:(List.take (min b m) (List.drop a S)).length=min b m:=by grind
 grind[lX]
section
variable{d:Cx}{s:AS}
def nY(s:AS):AV→Option (Nat×TypeId×h7×Option es)
 | .ref id=>match look id s.r with|some ⟨et,sz,l⟩=>(match Nat.beq sz 1&&Nat.ble (id+1) TG with|true=>some (id,et,l,none)|false=>none)|none=>none
 | .sref id sz off m=>match look id s.r with|some ⟨et,a,l⟩=>(match (Nat.beq sz 1&&Nat.beq a 1)&&Nat.ble (id+1) TG with|true=>some (id,et,l,some (off,m))|false=>none)|none=>none
 | _=>none
def tC(s:AS):AV→Option (h7×Option es)
 | .sl l=>some (l,none)
 | v=>(nY s v).map fun x=>(x.2.2.1,x.2.2.2)
def fv(o:Option es)(n:Nat):Nat×Nat:=match o with|some q=>q|none=>(0,n)
theorem OU{a:Act}{w:World}{ι:Env}(Q:aV d s a w ι){u:AV}{X:Value}(H:Rel (NN d.M ι) w ι u X){id:Nat}{et:TypeId}{l:h7}{I:Option es}(h:nY s u=some (id,et,l,I)){off m:Nat}(q:fv I l.length=(off,m)):
  id<TG∧look id s.r=some ⟨et,1,l⟩∧∃B k,X=.slice B m k∧((m=0∧(B=none→k=0∨True))∨∃g n c,ι id=some (.slice (some ⟨g,0,none⟩) n c)∧B=some ⟨g,off,none⟩)∧(B=none∨∃a,B=some a):=by
 have x:∀B:Option Addr,B=none∨∃a,B=some a:=fun B=>by cases B with|none=>exact .inl rfl|some a=>exact .inr ⟨a,rfl⟩
 unfold nY at h;split at h
 ·split at h
  case h_2=>cases h
  rename_i r sz l' p;split at h
  case h_2=>cases h
  rename_i b;rw[iO]at b;have f:=j3 b.2;have b:=n3 b.1;simp only[u5,zt]at h;obtain⟨rfl,rfl,rfl,rfl⟩:=h;subst b;simp only[fv,zt]at q;obtain⟨rfl,rfl⟩:=q;refine⟨f,p,?_⟩;cases H with
  | ref _ _ A n c j =>
   obtain⟨v,xs,o,K,S,T,U⟩:=Q.hs.arrs _ _ p (by rw[j];rfl);rw[j]at o;injection o with o;subst o
   obtain⟨E,i⟩|⟨L,J,F,E,V,O,P,G,C,D⟩:=K.2
   ·injection E with t z e
    subst t;subst z;subst e;exact⟨none,0,by simp only[]at i⊢;rw[i],.inl ⟨i,fun _=>.inl rfl⟩,x _⟩
   ·injection E with t z e
    subst t;subst z;subst e;exact⟨_,c,rfl,.inr ⟨L,_,c,j,rfl⟩,x _⟩
 ·split at h
  case h_2=>cases h
  rename_i r R l' p;split at h
  case h_2=>cases h
  rename_i b;rw[iO,iO]at b;have f:=j3 b.2;have M:=n3 b.1.1;have N:=n3 b.1.2;simp only[u5,zt]at h;obtain⟨rfl,rfl,rfl,rfl⟩:=h;subst M;subst N;simp only[fv,zt]at q;obtain⟨rfl,rfl⟩:=q;refine⟨f,p,?_⟩;cases H with
  | sref _ _ _ _ _ n c k A B j y =>
   refine⟨B,k,rfl,?_,x _⟩;rcases y with i|⟨g,rfl,rfl,_⟩
   ·exact .inl ⟨i,fun _=>.inr trivial⟩
   ·exact .inr ⟨g,n,c,j,by simp⟩
 grind
theorem aah{a:Act}{w:World}{ι:Env}(M:aV d s a w ι){u:AV}{X:Value}(o:Rel (NN d.M ι) w ι u X){l:h7}{Q:Option es}(h:tC s u=some (l,Q)){off m:Nat}(L:fv Q l.length=(off,m))(P:∀e∈l,e.length=1)(V:off+m≤l.length):
  ∃A t,X=.slice A m t∧∀k,k≤m→k=0∨∃(p:Addr) (vs:ee),A=some p∧vs.length=k∧(∀(j:Nat) (u:Value),vs[j]?=some u→w.cell? (p.add j)=some u)∧(∀x∈vs,x.oneCell'=true)∧∀(j:Nat),j<k→∀(e:c6),l[off+j]?=some e→∀(i:Nat) (c:AV),e[i]?=some c→∃y,vs[j*1+i]?=some y∧Rel (NN d.M ι) w bG c y:=by
 have R:∀{id:Nat} {et:TypeId},nY s u=some (id,et,l,Q)→∃A t,X=.slice A m t∧∀k,k≤m→k=0∨∃(p:Addr) (vs:ee),A=some p∧vs.length=k∧(∀(j:Nat) (u:Value),vs[j]?=some u→w.cell? (p.add j)=some u)∧(∀x∈vs,x.oneCell'=true)∧∀(j:Nat),j<k→∀(e:c6),l[off+j]?=some e→∀(i:Nat) (c:AV),e[i]?=some c→∃y,vs[j*1+i]?=some y∧Rel (NN d.M ι) w bG c y:=fun {id et} z=>by
  obtain⟨a0,hl,B,t,rfl,hB,_⟩:=OU M o z L;refine⟨B,t,rfl,fun k J=>?_⟩;obtain⟨U,_⟩|⟨g,n,c,W,rfl⟩:=hB
  ·exact .inl (by omega)
  ·right;obtain⟨v,xs,E,S,e3,Y,G⟩:=M.hs.arrs _ _ hl (by rw[W];rfl);have T:∀(j:Nat) (e:c6),l[j]?=some e→∀(i:Nat) (c:AV),e[i]?=some c→∃x,xs[j*1+i]?=some x∧Rel (NN d.M ι) w bG c x:=fun j e f i c H=>by
    obtain⟨x,D,o⟩:=G j e f i c H;exact⟨x,D,o.flat (by omega)⟩
   rw[W]at E;injection E with E;subst E
   have r:=S.cells (g:=g) rfl;have N:=S.1;simp only[alY]at N T;refine⟨⟨g,off,none⟩,(xs.drop off).take k,rfl,by rw[IN,ahP];omega,fun j y b=>?_,fun x D=>Y x (w3 (oR D)),fun j b e f i c C=>?_⟩
   ·rw[z3]at b;split at b
    ·rw[af8]at b;have:=r _ _ b;rw[aiE]at this⊢;rw[If]at this;exact this
    ·cases b
   ·have I:i=0:=by
     have F:=(jt.1 C).1;rw[P e (mm f)]at F;omega
    obtain⟨y,O,o⟩:=T _ e f i c C;refine⟨y,?_,o⟩;rw[z3,ll (by omega),af8,alY,← akS];exact O
 unfold tC at h;split at h
 ·rename_i l';simp only[u5,zt]at h;obtain⟨rfl,rfl⟩:=h;simp only[fv,zt]at L;obtain⟨rfl,rfl⟩:=L;have K:oP s 1 (.sl l')=some l':=by
   have ha:l'.all (fun e=>e.length == 1)=true:=n5.2 fun e f=>by simp[P e f]
   simp only[oP,ha,AT]
  obtain⟨A,c,rfl,_,H⟩:=M5 M K o;refine⟨A,c,rfl,fun k J=>?_⟩;by_cases U:k=0
  ·exact .inl U
  rcases H with rfl|⟨p,vs,rfl,F,Z,h4,h5⟩
  ·simp at J;exact .inl J
  ·refine .inr ⟨p,vs.take k,rfl,by rw[IN];omega,fun j y b=>?_,fun x D=>h4 x (oR D),fun j b e f i c C=>?_⟩
   ·rw[z3]at b;split at b
    ·exact Z j y b
    ·cases b
   ·have I:i=0:=by
     have F:=(jt.1 C).1;rw[P e (mm f)]at F;omega
    rw[If]at f;obtain⟨y,O,o⟩:=h5 j e f i c C;exact⟨y,by rw[z3,ll (by omega)];exact O,o⟩
 ·cases z:nY s u with
  | none=>rw[z]at h;cases h
  | some q =>
   obtain⟨id,et,l',b0⟩:=q;rw[z]at h;simp only[Ts,u5,zt]at h;obtain⟨rfl,rfl⟩:=h;exact R z
def ud(P:Program)(s:AS)(T:TypeId)(u v:AV):Option (AS×AV) :=
 match gA P T,nY s u,tC s v with
 | some (et,sz),some (id,d,l,b),some (a,c) =>
  if sz=1∧et=d∧(∀e∈l,e.length=1)∧(∀e∈a,e.length=1)∧Ol (fv b l.length).1 (fv b l.length).2 l.length (fv c a.length).1 (fv c a.length).2 a.length=true then
   some ({ s with r:=bi id ⟨et,1,lX l (fv b l.length).1 (fv b l.length).2 a (fv c a.length).1 (fv c a.length).2⟩ s.r },.int .i64 (min (fv c a.length).2 (fv b l.length).2:Nat)) else none
 | _,_,_=>none
theorem acx{a:Act}{w:World}{ι:Env}(f:aV d s a w ι){T T' ty:TypeId}{u v r:AV}{s':AS}(h:ud d.P s T u v=some (s',r)){X Y:Value}(o0:Rel (NN d.M ι) w ι u X)(p0:Rel (NN d.M ι) w ι v Y):
  ∃y w',(Builtin.copy_ #[T,T'] ty #[X,Y]).run d.P w=.ok y w'∧aV d s' a w' ι∧Rel (NN d.M ι) w' ι r y:=by
 unfold ud at h;split at h
 case h_2=>cases h
 rename_i et sz id S0 l od Z os J hu hv;split at h
 case isFalse=>cases h
 rename_i M;obtain⟨c1,c2,hz,V,hc⟩:=M;subst c1;subst c2;injection h with h;injection h with W e2;subst W;subst e2
 generalize e0:(fv od l.length).1=off at *;generalize w0:(fv od l.length).2=m at *;generalize O:(fv os Z.length).1=o at *;generalize d0:(fv os Z.length).2=D at *;have ho:fv od l.length=(off,m):=by rw[←e0,← w0]
 have x0:fv os Z.length=(o,D):=by rw[←O,← d0]
 simp only[Ol,iO,q7]at hc;obtain⟨a0,L⟩:=hc;obtain⟨b1,F,B,c',rfl,hB,T0⟩:=OU (off:=off) (m:=m) f o0 hu ho;obtain⟨A,c2,rfl,s0⟩:=aah (off:=o) (m:=D) f p0 hv x0 V L;unfold gA at J;split at J
 case h_2=>cases J
 rename_i e' C;cases p:d.P.info? e' with
 | none=>simp[cy,p]at J
 | some ie =>
  simp only[cy,p,Ts,u5,zt]at J;obtain⟨rfl,f0⟩:=J;have q:Nat.min D m=min D m:=rfl;by_cases K:min D m=0
  ·-- nothing is copied
   have hL:lX l off m Z o D=l:=by unfold lX;rw[K];simp
   have t:(Builtin.copy_ #[T,T'] ty #[.slice B m c',.slice A D c2]).run d.P w=.ok (goInt 0) w:=by
    have l0:∀a:Addr,(loadCells a 0).run d.P w=.ok #[] w:=fun a=>by simp[loadCells,loadCellsFrom]
    cases A with
    | none=>cases B with
     | none=>simp[Builtin.copy_,qk C,Builtin.lenOf,Builtin.firstCells,sizeOf,typeInfo,p,q,K]
     | some b=>simp[Builtin.copy_,qk C,Builtin.lenOf,Builtin.firstCells,sizeOf,typeInfo,p,q,K,storeCells]
    | some a=>cases B with
     | none=>simp[Builtin.copy_,qk C,Builtin.lenOf,Builtin.firstCells,sizeOf,typeInfo,p,q,K,l0]
     | some b=>simp[Builtin.copy_,qk C,Builtin.lenOf,Builtin.firstCells,sizeOf,typeInfo,p,q,K,l0,storeCells]
   rw[hL,K];have Q:aV d { s with r:=bi id ⟨e',1,l⟩ s.r } a w ι:=by
    refine⟨⟨f.hs.below,f.hs.old,f.hs.use,f.hs.own,f.hs.inj,f.hs.ko,fun j ar k=>?_,f.hs.objs,fun j ar k hp=>?_,f.hs.pin⟩,f.dfr,f.n,f.tmp⟩
    ·simp only[cq]at k;split at k
     ·rename_i e;subst e;exact f.hs.kr j _ F
     ·exact f.hs.kr j ar k
    ·simp only[cq]at k;split at k
     ·rename_i e;subst e;injection k with k;subst k;exact f.hs.arrs j _ F hp
     ·exact f.hs.arrs j ar k hp
   exact⟨_,w,t,Q,.int _ _ _⟩
  ·rcases s0 (min D m) (Nat.min_le_left _ _)with m0|⟨ad,vs,rfl,i0,y0,g0,A0⟩
   ·exact absurd m0 K
   obtain⟨a1,_⟩|⟨g,n,c,hι,rfl⟩:=hB
   ·omega
   obtain⟨v1,xs,W,e2,e3,e4,e5⟩:=f.hs.arrs _ _ F (by rw[hι];rfl);rw[hι]at W;injection W with W;subst W
   obtain⟨S,_⟩|⟨g',Q0,i,S,hb,b0,v0,I0,R,z⟩:=e2.2
   ·cases S
   injection S with hA hn r0
   injection hA with hA;injection hA with hA;subst hA;subst r0
   have k0:=e2.1;simp only[alY]at k0 R z v0 hn e5;have H:off+vs.length≤i.size:=by omega
   have t:=run_copy_row (P:=d.P) w T T' ty e' g off m c' ad D c2 i e' vs C (by rw[p];simp[f0]) b0 i0 y0 H g0;have U:(xs.take off++vs++xs.drop (off+vs.length)).length=l.length:=by rw[oT _ _ _ (by omega)];exact k0
   have hC:i.toList.take off++vs++i.toList.drop (off+vs.length)=(xs.take off++vs++xs.drop (off+vs.length))++i.toList.drop (xs.take off++vs++xs.drop (off+vs.length)).length:=by
    apply akz;intro j;have J:∀j,xs[j]?=if j<l.length then i.toList[j]? else none:=fun j=>by rw[←z,z3]
    rw[ku _ _ _ (by rw[DO];exact H),U];by_cases k:j<l.length
    ·rw[Db (by omega),ku _ _ _ (by omega),J j,ll k]
    ·rw[Dy (by omega),U,af8,kc (by omega),kc (by omega)];congr 1;omega
   have I:=f.hs.MM (l':=lX l off m Z o D) (xs':=xs.take off++vs++xs.drop (off+vs.length)) F hι b0 (by rw[afg _ _ _ _ _ _ a0 L]) (fun e he=>by
     unfold lX at he;rcases nw.1 he with he|he
     ·exact hz e (oR he)
     ·rcases nw.1 he with he|he
      ·exact V e (w3 (oR he))
      ·exact hz e (w3 he)) (by simpa using U) (fun x G=>by
     rcases nw.1 G with G|G
     ·rcases nw.1 G with G|G
      ·exact e4 x (oR G)
      ·exact g0 x G
     ·exact e4 x (w3 G)) (fun j e he i' c0 E=>by
     rw[agm _ _ _ _ _ _ a0 L]at he;simp only[alY];have N:e.length=1→i'=0:=fun hm=>by
      have h2:=(jt.1 E).1;omega
     split at he
     ·rename_i k;have:=N (hz e (mm he));subst this;rw[ku _ _ _ (by omega),akl,ll k];have:=e5 j e he 0 c0 E;simpa using this
     ·rename_i k;split at he
      ·rename_i t0;have:=N (V e (mm he));subst this;rw[ku _ _ _ (by omega),akl,kc k,ll (by omega)];obtain⟨y,hy,hr⟩:=A0 (j-off) (by omega) e (by simpa using he) 0 c0 E;exact⟨y,by simpa using hy,.inl hr⟩
      ·rename_i t0;have:=N (hz e (mm he));subst this;rw[ku _ _ _ (by omega),akl,kc k,kc (by omega)];have:=e5 j e he 0 c0 E;simpa using this)
   rw[←hC]at I;have q0:br (ι id)=some g:=by rw[hι];rfl
   have Q:aV d { s with r:=bi id ⟨e',1,lX l off m Z o D⟩ s.r } a (w.setRow g (i.toList.take off++vs++i.toList.drop (off+vs.length)).toArray) ι :=
    f.world I rfl (by simp) (fun b _ hb=>hb) (fun b _ hb=>eC (fun e=>hb (.inr ⟨id,by rw[e];exact q0⟩))) (fun _ _ h=>h)
   refine⟨_,_,t,Q,?_⟩;rw[i0];exact .int _ _ _
end
end Go.Proofs.YtocgkfoifehcbaaGreat

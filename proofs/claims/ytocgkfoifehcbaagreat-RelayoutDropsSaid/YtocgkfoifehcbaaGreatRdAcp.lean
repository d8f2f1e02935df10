/- copy on abstract values. No program in sight. -/
import Derived.Test.YtocgkfoifehcbaaGreatRdAapp
import Derived.Test.YtocgkfoifehcbaaGreatRdAx
namespace Go.Proofs.YtocgkfoifehcbaaGreat
set_option linter.all false
open Go.RowKit
def kb:=@Nat.le_of_ble_eq_true
def nx:=@Nat.eq_of_beq_eq_true
def q6:=@decide_eq_true_eq
def AT:=@if_true
def ak2:=@List.length_drop
def ak4:=@List.getElem?_replicate
def ali:=@List.getElem?_of_mem
def alp:=@IntKind.wrap_i64
def ama:=@List.mem_replicate
def amp:=@Nat.add_sub_cancel_left
def amy:=@Int.mul_comm
def amz:=@getElem!_pos
def amA:=@Nat.mul_add_mod
def amO:=@Nat.mul_one
theorem QB:Array.range 0 = #[]:=rfl
def fw(n:Int)(bytes:Nat):Bool:=decide (0≤n)&&(decide (n≤9223372036854775807)&&decide (n.toNat*bytes≤140737488355328))
theorem Qa{P:Program}(w:World)(t e:TypeId)(i:TypeInfo)(z:Value)(d:P.underlying t=some (.slice e))(hi:P.info? e=some i)(k:i.zero=some z)
  (kl m:IntKind) (l:Int) (f:0≤l) (g:l≤9223372036854775807) (b:l.toNat*i.bytes≤140737488355328) (c:0<i.size) :
  (Instr.makeSlice t (.int kl l) (.int m l)).run P w=.ok (.slice (some ⟨w.heap.size,0,none⟩) l.toNat l.toNat) (w.alloc (.cells ((Array.range (l.toNat*i.size)).map (z.cells[· % z.cells.size]!)) e)):=by
 have q:IntKind.i64.wrap l=l:=by rw[alp];omega
 have n:¬ l<0:=by omega
 have o:¬ (281474976710656<(i.bytes:Int)*l):=by
  have:(i.bytes:Int)*l=((l.toNat*i.bytes:Nat):Int):=by
   rw[Int.natCast_mul,Int.toNat_of_nonneg f,amy]
  omega
 have p:¬ (140737488355328<l.toNat*i.bytes):=by omega
 by_cases j:l.toNat*i.size=0
 ·have a:l.toNat=0:=by
   rcases Nat.mul_eq_zero.1 j with h|h
   ·exact h
   ·omega
  simp[Instr.makeSlice,ob d,asInt,asIntOf,typeInfo,hi,sizeOf,q,n,o,p,newRow,askRoom,roomBytes,a,QB]
 ·simp[Instr.makeSlice,ob d,asInt,asIntOf,typeInfo,hi,sizeOf,zeroValue,k,newRow]
  grind
theorem M6{P:Program}{N:Nat→Prop}(w:World){T e:TypeId}{sz bytes:Nat}{m:Int}{zc:c6}(d:ja P T=some (e,sz,bytes))(Q:ey P e=some zc)(D:fw m bytes=true)(kd kd':IntKind):
  ∃vs:eg,(Instr.makeSlice T (.int kd m) (.int kd' m)).run P w=.ok (.slice (some ⟨w.heap.size,0,none⟩) m.toNat m.toNat) (w.alloc (.cells vs.toArray e))∧m.toNat≤maxLen∧vs.length=m.toNat*sz∧(∀c∈List.replicate m.toNat (zc.map fT),c.length=sz)∧(∀v∈vs,v.oneCell'=true) ∧
   ∀(j:Nat) (c:c6),(List.replicate m.toNat (zc.map fT))[j]?=some c→∀(i:Nat) (x:AV),c[i]?=some x→∃v,vs[j*sz+i]?=some v∧Rel N w bH x v:=by
 simp only[fw,iO,q6]at D;obtain⟨G,H,I⟩:=D;unfold ja at d;split at d
 case h_2=>cases d
 rename_i J B;split at d
 case h_2=>cases d
 rename_i b r;split at d
 case h_2=>cases d
 rename_i z s;split at d
 case isFalse=>cases d
 rename_i g;injection d with d;injection d with K d;injection d with L M
 subst K;subst L;subst M;have C:lI z.cells.toList=some zc:=by simpa[ey,r,s]using Q
 have a:=(lj N w bH C);have A:=a.pz;have p:=Qa w T J b z B r s kd kd' m G H I g.2;have f:zc.length=b.size:=by rw[a.len,← g.1];simp
 have h:∀q,q<m.toNat*b.size→((Array.range (m.toNat*b.size)).map (z.cells[· % z.cells.size]!)).toList[q]?=z.cells.toList[q % b.size]?:=fun q k=>by
  have E:q % b.size<z.cells.size:=by rw[g.1];exact amY _ g.2
  simp[k,g.1];rw[amz z.cells (q % b.size) E,ll E]
 refine⟨((Array.range (m.toNat*b.size)).map (z.cells[· % z.cells.size]!)).toList,by rw[aiU];exact p,by unfold maxLen;omega,by simp,fun c O=>?_,fun v t=>?_,fun j c n i x F=>?_⟩
 ·rw[(ama.1 O).2,nw,f]
 ·obtain⟨q,k⟩:=ali t;have y:q<m.toNat*b.size:=by have:=(jt.1 k).1;simpa using this
  rw[h q y]at k;exact a.one v (mm k)
 ·rw[ak4]at n;split at n
  ·rename_i u;injection n with n;subst n
   have hi:i<b.size:=by have:=(jt.1 F).1;rw[nw,f]at this;exact this
   have k:j*b.size+i<m.toNat*b.size:=by
    have:(j+1)*b.size≤m.toNat*b.size:=IN _ u;rw[ajK,ak9]at this;omega
   have o:(j*b.size+i) % b.size=i:=by rw[als,amA,alo hi]
   rw[h _ k,o];have t:=j3 (l:=z.cells.toList) (i:=i) (by rw[←a.len,f];exact hi);exact⟨_,t,A.rel i x _ F t⟩
  ·cases n
def tA(P:Program)(s:AS)(T:TypeId)(x y:Operand):Option AV :=
 match s.ev x,s.ev y,ja P T with
 | some (.int _ m),some (.int _ a),some (e,_,bytes)=>match ey P e with
  | some zc=>if m=a∧fw m bytes=true then some (.sl (List.replicate m.toNat (zc.map fT))) else none
  | none=>none
 | _,_,_=>none
theorem ahx{c:Cx}{s:AS}{a:Act}{w:World}{ι:Env}(g:aV c s a w ι){T:TypeId}{x y:Operand}{v:AV}(h:tA c.P s T x y=some v):
  ∃X w',(Instr.makeSlice T (a.eval x) (a.eval y)).run c.P w=.ok X w'∧aV c s a w' ι∧Rel (NN c.M ι) w' ι v X:=by
 unfold tA at h;split at h
 case h_2=>cases h
 rename_i kd m kd' r e sz bytes k l j;split at h
 case h_2=>cases h
 rename_i zc n;split at h
 case isFalse=>cases h
 rename_i i;obtain⟨rfl,d⟩:=i;injection h with h;subst h
 obtain⟨vs,f,t,u,o,p,q⟩:=M6 (P:=c.P) (N:=NN c.M ι) w j n d kd kd';refine⟨_,_,by rw[lV g k,lV g l];exact f,?_,?_⟩
 ·exact g.world (g.hs.fresh _) rfl (by simp) (fun b _ d=>d) (fun b d _=>u7 _ _ _ d) (fun _ _ h=>h)
 ·have:=Rn (T:=e) g.hs o p q;simpa using this
theorem HS.LQ{M:Nat→Prop}{w0:aB}{w:World}{ι:Env}{s:AS}(h:HS M w0 w ι s){id g n c:Nat}{ar:cj}{l':h6}{xs':eg}{f:Array Value}{T:TypeId}
  (U:look id s.r=some ar) (q:ι id=some (.slice (some ⟨g,0,none⟩) n c)) (hg:w.heap[g]?=some (.cells f T (0,0))) (O:l'.length=ar.l.length) (hz:∀e∈l',e.length=ar.sz) (L:xs'.length=ar.l.length*ar.sz) (D:∀x∈xs',x.oneCell'=true)
  (hc:∀(j:Nat) (e:c6),l'[j]?=some e→∀(i:Nat) (c:AV),e[i]?=some c→∃x,xs'[j*ar.sz+i]?=some x∧gv (NN M ι) w (TG≤id) (ι (nm id (j*ar.sz+i))) c x) :
  HS M w0 (w.setRow g (xs'++f.toList.drop xs'.length).toArray) ι ({ s with r:=bd id { ar with l:=l' } s.r }):=by
 obtain⟨v,xs,N,e2,e3,e4,e5⟩:=h.arrs id ar U (by rw[q];rfl);rw[q]at N;injection N with N;subst N
 have p:bu (ι id)=some g:=by rw[q];rfl
 obtain⟨hv,_⟩|⟨B,f0,e0,hv,o,d,I,G,m,a0⟩:=e2.2
 ·cases hv
 injection hv with F hn V
 injection F with F;injection F with F;subst F;subst V
 rw[hg]at d;injection d with d;injection d with q1 q2 q3;subst q1;subst q2
 have y:ar.l.length*ar.sz≤c*ar.sz:=IN _ I;generalize hC:(xs'++f.toList.drop xs'.length).toArray=C;have P:∀b,b<w.heap.size→¬ NN M ι b→(w.setRow g C).heap[b]?=w.heap[b]?:=fun b _ o=>eG (fun e=>o (.inr ⟨id,by rw[e];exact p⟩));obtain⟨K,g0⟩:=h.own id g p;refine⟨?_,h.old,h.use,fun i k H=>?_,h.inj,h.ko,fun i a hi=>?_,fun i cs hi Z=>?_,fun i a hi Z=>?_,h.pin⟩
 ·exact h.below.trans ⟨rfl,rfl,rfl,by simp,fun k H hG=>eG (fun e=>by subst e;rcases K with K|K;exact Nat.lt_irrefl _ (wl H K);exact hG K)⟩
 ·have:=h.own i k H;simp;exact this
 ·simp only[cn]at hi;by_cases A:i=id
  ·subst A;exact h.use i _ q
  ·rw[kc A]at hi;exact h.kr i a hi
 ·obtain⟨B,T',c0,D,t,u⟩:=h.objs i cs hi Z;have Y:B≠g:=fun Q=>by
   have:=h.inj i id g (by rw[D,Q];rfl) p;subst this;rw[D]at q;cases q
  exact⟨B,T',c0,D,(eG Y).trans t,u.mono (by simp) (fun b _ o=>o) P (fun _ _ h=>h)⟩
 ·simp only[cn]at hi;by_cases A:i=id
  ·subst A;rw[lp rfl]at hi;injection hi with hi;subst hi
   have J:xs'.length≤f.toList.length:=by rw[L,If,m];exact y
   refine⟨_,xs',q,⟨by simpa[O]using L,.inr ⟨g,c,C,by simp[hn,O],o,am2 w g f _ _ _ hg,by simpa[O]using I,G,?_,?_⟩⟩,hz,D,fun j e W k c' H=>?_⟩
   ·rw[←hC];simp only[amh,ne,ak2];rw[←Nat.add_sub_assoc J,amp,If];exact m
   ·rw[←hC];simp only[O,← L];rw[List.take_left'];rfl
   ·obtain⟨x,b0,hr⟩:=hc j e W k c' H;exact⟨x,b0,hr.mono (by simp) (fun b _ o=>o) P (fun _ h=>h) (fun r z=>eG (fun e=>h.nP z q (fun _ e=>by cases e) (by rw[e];rfl))) (fun h=>h)⟩
  ·rw[kc A]at hi;obtain⟨v',d0,E,t,u,R,S⟩:=h.arrs i a hi Z;refine⟨v',d0,E,fK t (fun B d=>eG ?_),u,R,fun j el W k c X=>?_⟩
   ·intro Q;subst Q;exact A (h.inj i id B (by rw[E];exact d) p)
   ·obtain⟨x,L,hr⟩:=S j el W k c X;exact⟨x,L,hr.mono (by simp) (fun b _ o=>o) P (fun _ h=>h) (fun r z=>eG (fun e=>h.nP z q (fun _ e=>by cases e) (by rw[e];rfl))) (fun h=>h)⟩
def lZ{α:Type}(L:List α)(off m:Nat)(S:List α)(a b:Nat):List α:=List.take off L++(List.take (min b m) (List.drop a S)++List.drop (off+min b m) L)
def LA(off m n a b c:Nat):Bool:=decide (off+m≤n)&&decide (a+b≤c)
theorem agR{α:Type}(L:List α) off m S a b(c:off+m≤L.length)(d:a+b≤S.length):(lZ L off m S a b).length=L.length:=by
 grind[lZ]
theorem aiW{α:Type}(L:List α)(off m:Nat)(S:List α)(a b:Nat)(e:off+m≤L.length)(f:a+b≤S.length)(j:Nat):(lZ L off m S a b)[j]?=if j<off then L[j]? else if j<off+min b m then S[a+(j-off)]? else L[j]?:=by
 have c:(List.take off L).length=off:=by grind
 have d:(List.take (min b m) (List.drop a S)).length=min b m:=by grind
 grind[lZ]
section
variable{d:Cx}{s:AS}
def nQ(s:AS):AV→Option (Nat×TypeId×h6×Option ew)
 | .ref id=>match look id s.r with|some ⟨et,sz,l⟩=>(match Nat.beq sz 1&&Nat.ble (id+1) TG with|true=>some (id,et,l,none)|false=>none)|none=>none
 | .sref id sz off m=>match look id s.r with|some ⟨et,a,l⟩=>(match (Nat.beq sz 1&&Nat.beq a 1)&&Nat.ble (id+1) TG with|true=>some (id,et,l,some (off,m))|false=>none)|none=>none
 | _=>none
def sG(s:AS):AV→Option (h6×Option ew)
 | .sl l=>some (l,none)
 | v=>(nQ s v).map fun x=>(x.2.2.1,x.2.2.2)
def fA(o:Option ew)(n:Nat):Nat×Nat:=match o with|some q=>q|none=>(0,n)
theorem So{a:Act}{w:World}{ι:Env}(Q:aV d s a w ι){u:AV}{X:Value}(H:Rel (NN d.M ι) w ι u X){id:Nat}{et:TypeId}{l:h6}{I:Option ew}(h:nQ s u=some (id,et,l,I)){off m:Nat}(q:fA I l.length=(off,m)):
  id<TG∧look id s.r=some ⟨et,1,l⟩∧∃B k,X=.slice B m k∧((m=0∧(B=none→k=0∨True))∨∃g n c,ι id=some (.slice (some ⟨g,0,none⟩) n c)∧B=some ⟨g,off,none⟩)∧(B=none∨∃a,B=some a):=by
 have x:∀B:Option Addr,B=none∨∃a,B=some a:=fun B=>by cases B with|none=>exact .inl rfl|some a=>exact .inr ⟨a,rfl⟩
 unfold nQ at h;split at h
 ·split at h
  case h_2=>cases h
  rename_i r sz l' p;split at h
  case h_2=>cases h
  rename_i b;rw[iO]at b;have f:=kb b.2;have b:=nx b.1;simp only[th,BY]at h;obtain⟨rfl,rfl,rfl,rfl⟩:=h;subst b;simp only[fA,BY]at q;obtain⟨rfl,rfl⟩:=q;refine⟨f,p,?_⟩;cases H with
  | ref _ _ A n c j =>
   obtain⟨v,xs,o,K,S,T,U⟩:=Q.hs.arrs _ _ p (by rw[j];rfl);rw[j]at o;injection o with o;subst o
   obtain⟨E,i⟩|⟨L,J,F,E,V,O,P,G,C,D⟩:=K.2
   ·injection E with t z e
    subst t;subst z;subst e;exact⟨none,0,by simp only[]at i⊢;rw[i],.inl ⟨i,fun _=>.inl rfl⟩,x _⟩
   ·injection E with t z e
    subst t;subst z;subst e;exact⟨_,c,rfl,.inr ⟨L,_,c,j,rfl⟩,x _⟩
 ·split at h
  case h_2=>cases h
  rename_i r R l' p;split at h
  case h_2=>cases h
  rename_i b;rw[iO,iO]at b;have f:=kb b.2;have M:=nx b.1.1;have N:=nx b.1.2;simp only[th,BY]at h;obtain⟨rfl,rfl,rfl,rfl⟩:=h;subst M;subst N;simp only[fA,BY]at q;obtain⟨rfl,rfl⟩:=q;refine⟨f,p,?_⟩;cases H with
  | sref _ _ _ _ _ n c k A B j y =>
   refine⟨B,k,rfl,?_,x _⟩;rcases y with i|⟨g,rfl,rfl,_⟩
   ·exact .inl ⟨i,fun _=>.inr trivial⟩
   ·exact .inr ⟨g,n,c,j,by simp⟩
 grind
theorem afs{a:Act}{w:World}{ι:Env}(L:aV d s a w ι){u:AV}{X:Value}(o:Rel (NN d.M ι) w ι u X){l:h6}{P:Option ew}(h:sG s u=some (l,P)){off m:Nat}(K:fA P l.length=(off,m))(O:∀e∈l,e.length=1)(U:off+m≤l.length):
  ∃A t,X=.slice A m t∧∀k,k≤m→k=0∨∃(p:Addr) (vs:eg),A=some p∧vs.length=k∧(∀(j:Nat) (u:Value),vs[j]?=some u→w.cell? (p.add j)=some u)∧(∀x∈vs,x.oneCell'=true)∧∀(j:Nat),j<k→∀(e:c6),l[off+j]?=some e→∀(i:Nat) (c:AV),e[i]?=some c→∃y,vs[j*1+i]?=some y∧Rel (NN d.M ι) w bH c y:=by
 have Q:∀{id:Nat} {et:TypeId},nQ s u=some (id,et,l,P)→∃A t,X=.slice A m t∧∀k,k≤m→k=0∨∃(p:Addr) (vs:eg),A=some p∧vs.length=k∧(∀(j:Nat) (u:Value),vs[j]?=some u→w.cell? (p.add j)=some u)∧(∀x∈vs,x.oneCell'=true)∧∀(j:Nat),j<k→∀(e:c6),l[off+j]?=some e→∀(i:Nat) (c:AV),e[i]?=some c→∃y,vs[j*1+i]?=some y∧Rel (NN d.M ι) w bH c y:=fun {id et} z=>by
  obtain⟨a0,hl,B,t,rfl,hB,_⟩:=So L o z K;refine⟨B,t,rfl,fun k I=>?_⟩;obtain⟨T,_⟩|⟨g,n,c,V,rfl⟩:=hB
  ·exact .inl (by omega)
  ·right;obtain⟨v,xs,D,R,e3,W,F⟩:=L.hs.arrs _ _ hl (by rw[V];rfl);have S:∀(j:Nat) (e:c6),l[j]?=some e→∀(i:Nat) (c:AV),e[i]?=some c→∃x,xs[j*1+i]?=some x∧Rel (NN d.M ι) w bH c x:=fun j e f i c G=>by
    obtain⟨x,C,o⟩:=F j e f i c G;exact⟨x,C,o.flat (by omega)⟩
   rw[V]at D;injection D with D;subst D
   have r:=R.cells (g:=g) rfl;have M:=R.1;simp only[amO]at M S;refine⟨⟨g,off,none⟩,(xs.drop off).take k,rfl,by rw[afN,ak2];omega,fun j y b=>?_,fun x C=>W x (OR (u6 C)),fun j b e f i c hi=>?_⟩
   ·rw[By]at b;split at b
    ·rw[ahn]at b;have:=r _ _ b;rw[akR]at this⊢;rw[IF]at this;exact this
    ·cases b
   ·have H:i=0:=by
     have E:=(jt.1 hi).1;rw[O e (mm f)]at E;omega
    obtain⟨y,N,o⟩:=S _ e f i c hi;refine⟨y,?_,o⟩;rw[By,lp (by omega),ahn,amO,← alD];exact N
 unfold sG at h;split at h
 ·rename_i l';simp only[th,BY]at h;obtain⟨rfl,rfl⟩:=h;simp only[fA,BY]at K;obtain⟨rfl,rfl⟩:=K;have J:oI s 1 (.sl l')=some l':=by
   have ha:l'.all (fun e=>e.length == 1)=true:=n3.2 fun e f=>by simp[O e f]
   simp only[oI,ha,AT]
  obtain⟨A,c,rfl,_,G⟩:=Up L J o;refine⟨A,c,rfl,fun k I=>?_⟩;by_cases T:k=0
  ·exact .inl T
  rcases G with rfl|⟨p,vs,rfl,E,Y,Z,h5⟩
  ·simp at I;exact .inl I
  ·refine .inr ⟨p,vs.take k,rfl,by rw[afN];omega,fun j y b=>?_,fun x C=>Z x (u6 C),fun j b e f i c hi=>?_⟩
   ·rw[By]at b;split at b
    ·exact Y j y b
    ·cases b
   ·have H:i=0:=by
     have E:=(jt.1 hi).1;rw[O e (mm f)]at E;omega
    rw[IF]at f;obtain⟨y,N,o⟩:=h5 j e f i c hi;exact⟨y,by rw[By,lp (by omega)];exact N,o⟩
 ·cases z:nQ s u with
  | none=>rw[z]at h;cases h
  | some q =>
   obtain⟨id,et,l',b0⟩:=q;rw[z]at h;simp only[aa3,th,BY]at h;obtain⟨rfl,rfl⟩:=h;exact Q z
def sk(P:Program)(s:AS)(T:TypeId)(u v:AV):Option (AS×AV) :=
 match gA P T,nQ s u,sG s v with
 | some (et,sz),some (id,d,l,b),some (a,c) =>
  if sz=1∧et=d∧(∀e∈l,e.length=1)∧(∀e∈a,e.length=1)∧LA (fA b l.length).1 (fA b l.length).2 l.length (fA c a.length).1 (fA c a.length).2 a.length=true then
   some ({ s with r:=bd id ⟨et,1,lZ l (fA b l.length).1 (fA b l.length).2 a (fA c a.length).1 (fA c a.length).2⟩ s.r },.int .i64 (min (fA c a.length).2 (fA b l.length).2:Nat)) else none
 | _,_,_=>none
theorem Z7{a:Act}{w:World}{ι:Env}(f:aV d s a w ι){T T' ty:TypeId}{u v r:AV}{s':AS}(h:sk d.P s T u v=some (s',r)){X Y:Value}(o0:Rel (NN d.M ι) w ι u X)(p0:Rel (NN d.M ι) w ι v Y):
  ∃y w',(Builtin.copy_ #[T,T'] ty #[X,Y]).run d.P w=.ok y w'∧aV d s' a w' ι∧Rel (NN d.M ι) w' ι r y:=by
 unfold sk at h;split at h
 case h_2=>cases h
 rename_i et sz id a1 l od Z os J hu hv;split at h
 case isFalse=>cases h
 rename_i M;obtain⟨c1,c2,hz,V,hc⟩:=M;subst c1;subst c2;injection h with h;injection h with W e2;subst W;subst e2
 generalize e0:(fA od l.length).1=off at *;generalize w0:(fA od l.length).2=m at *;generalize O:(fA os Z.length).1=o at *;generalize d0:(fA os Z.length).2=D at *;have ho:fA od l.length=(off,m):=by rw[←e0,← w0]
 have x0:fA os Z.length=(o,D):=by rw[←O,← d0]
 simp only[LA,iO,q6]at hc;obtain⟨a0,L⟩:=hc;obtain⟨f1,F,B,c',rfl,hB,b1⟩:=So (off:=off) (m:=m) f o0 hu ho;obtain⟨A,c2,rfl,s0⟩:=afs (off:=o) (m:=D) f p0 hv x0 V L;unfold gA at J;split at J
 case h_2=>cases J
 rename_i e' C;cases p:d.P.info? e' with
 | none=>simp[cr,p]at J
 | some ie =>
  simp only[cr,p,aa3,th,BY]at J;obtain⟨rfl,f0⟩:=J;have q:Nat.min D m=min D m:=rfl;by_cases K:min D m=0
  ·-- nothing is copied
   have hL:lZ l off m Z o D=l:=by unfold lZ;rw[K];simp
   have t:(Builtin.copy_ #[T,T'] ty #[.slice B m c',.slice A D c2]).run d.P w=.ok (goInt 0) w:=by
    have l0:∀a:Addr,(loadCells a 0).run d.P w=.ok #[] w:=fun a=>by simp[loadCells,loadCellsFrom]
    cases A with
    | none=>cases B with
     | none=>simp[Builtin.copy_,ob C,Builtin.lenOf,Builtin.firstCells,sizeOf,typeInfo,p,q,K]
     | some b=>simp[Builtin.copy_,ob C,Builtin.lenOf,Builtin.firstCells,sizeOf,typeInfo,p,q,K,storeCells]
    | some a=>cases B with
     | none=>simp[Builtin.copy_,ob C,Builtin.lenOf,Builtin.firstCells,sizeOf,typeInfo,p,q,K,l0]
     | some b=>simp[Builtin.copy_,ob C,Builtin.lenOf,Builtin.firstCells,sizeOf,typeInfo,p,q,K,l0,storeCells]
   rw[hL,K];have Q:aV d { s with r:=bd id ⟨e',1,l⟩ s.r } a w ι:=by
    refine⟨⟨f.hs.below,f.hs.old,f.hs.use,f.hs.own,f.hs.inj,f.hs.ko,fun j ar k=>?_,f.hs.objs,fun j ar k hp=>?_,f.hs.pin⟩,f.dfr,f.n,f.tmp⟩
    ·simp only[cn]at k;split at k
     ·rename_i e;subst e;exact f.hs.kr j _ F
     ·exact f.hs.kr j ar k
    ·simp only[cn]at k;split at k
     ·rename_i e;subst e;injection k with k;subst k;exact f.hs.arrs j _ F hp
     ·exact f.hs.arrs j ar k hp
   exact⟨_,w,t,Q,.int _ _ _⟩
  ·rcases s0 (min D m) (Nat.min_le_left _ _)with m0|⟨ad,vs,rfl,i0,y0,g0,A0⟩
   ·exact absurd m0 K
   obtain⟨d1,_⟩|⟨g,n,c,hι,rfl⟩:=hB
   ·omega
   obtain⟨v1,xs,W,e2,e3,e4,e5⟩:=f.hs.arrs _ _ F (by rw[hι];rfl);rw[hι]at W;injection W with W;subst W
   obtain⟨S,_⟩|⟨g',T0,i,S,hb,b0,v0,S0,R,z⟩:=e2.2
   ·cases S
   injection S with hA hn r0
   injection hA with hA;injection hA with hA;subst hA;subst r0
   have k0:=e2.1;simp only[amO]at k0 R z v0 hn e5;have H:off+vs.length≤i.size:=by omega
   have t:=run_copy_row (P:=d.P) w T T' ty e' g off m c' ad D c2 i e' vs C (by rw[p];simp[f0]) b0 i0 y0 H g0;have U:(xs.take off++vs++xs.drop (off+vs.length)).length=l.length:=by rw[o9 _ _ _ (by omega)];exact k0
   have hC:i.toList.take off++vs++i.toList.drop (off+vs.length)=(xs.take off++vs++xs.drop (off+vs.length))++i.toList.drop (xs.take off++vs++xs.drop (off+vs.length)).length:=by
    apply alj;intro j;have J:∀j,xs[j]?=if j<l.length then i.toList[j]? else none:=fun j=>by rw[←z,By]
    rw[kQ _ _ _ (by rw[If];exact H),U];by_cases k:j<l.length
    ·rw[zt (by omega),kQ _ _ _ (by omega),J j,lp k]
    ·rw[z3 (by omega),U,ahn,kc (by omega),kc (by omega)];congr 1;omega
   have I:=f.hs.LQ (l':=lZ l off m Z o D) (xs':=xs.take off++vs++xs.drop (off+vs.length)) F hι b0 (by rw[agR _ _ _ _ _ _ a0 L]) (fun e he=>by
     unfold lZ at he;rcases n5.1 he with he|he
     ·exact hz e (u6 he)
     ·rcases n5.1 he with he|he
      ·exact V e (OR (u6 he))
      ·exact hz e (OR he)) (by simpa using U) (fun x G=>by
     rcases n5.1 G with G|G
     ·rcases n5.1 G with G|G
      ·exact e4 x (u6 G)
      ·exact g0 x G
     ·exact e4 x (OR G)) (fun j e he i' c0 E=>by
     rw[aiW _ _ _ _ _ _ a0 L]at he;simp only[amO];have N:e.length=1→i'=0:=fun hm=>by
      have h2:=(jt.1 E).1;omega
     split at he
     ·rename_i k;have:=N (hz e (mm he));subst this;rw[kQ _ _ _ (by omega),ak5,lp k];have:=e5 j e he 0 c0 E;simpa using this
     ·rename_i k;split at he
      ·rename_i t0;have:=N (V e (mm he));subst this;rw[kQ _ _ _ (by omega),ak5,kc k,lp (by omega)];obtain⟨y,hy,hr⟩:=A0 (j-off) (by omega) e (by simpa using he) 0 c0 E;exact⟨y,by simpa using hy,.inl hr⟩
      ·rename_i t0;have:=N (hz e (mm he));subst this;rw[kQ _ _ _ (by omega),ak5,kc k,kc (by omega)];have:=e5 j e he 0 c0 E;simpa using this)
   rw[←hC]at I;have q0:bu (ι id)=some g:=by rw[hι];rfl
   have Q:aV d { s with r:=bd id ⟨e',1,lZ l off m Z o D⟩ s.r } a (w.setRow g (i.toList.take off++vs++i.toList.drop (off+vs.length)).toArray) ι :=
    f.world I rfl (by simp) (fun b _ hb=>hb) (fun b _ hb=>eG (fun e=>hb (.inr ⟨id,by rw[e];exact q0⟩))) (fun _ _ h=>h)
   refine⟨_,_,t,Q,?_⟩;rw[i0];exact .int _ _ _
end
end Go.Proofs.YtocgkfoifehcbaaGreat

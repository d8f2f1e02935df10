/- Append on abstract values. No program in sight. -/
import Derived.Test.YtocgkfoifehcbaaGreatRkAop3
import Derived.Laws.AppendOwn
namespace Go.Proofs.YtocgkfoifehcbaaGreat
set_option linter.all false
open Go.RowKit
abbrev h6:=Nat×c6
abbrev h8:=List eq
def qk:=@Array.getElem?_eq_some_iff
def u6:=@Nat.zero_le
def akY:=@List.exists_mem_of_ne_nil
def ak1:=@Nat.mod_eq_of_lt
def alW:=@Nat.div_eq_of_lt
mutual
def AV.cY(id:Nat):AV→AV
 | .ref i=>if i=id then .any else .ref i
 | .eptr i sz j off=>if i=id then .any else .eptr i sz j off
 | .sref i sz off m=>if i=id then .any else .sref i sz off m
 | .ptr i off=>if i=id then .any else .ptr i off
 | .pp i g off=>if i=id then .any else .pp i g off
 | .sit i g s p=>if i=id then .any else .sit i g s p
 | .adr g off=>.adr g off
 | .agg cs=>.agg (jV id cs)
 | .tup cs=>.tup (jV id cs)
 | .int k n=>.int k n
 | .bool b=>.bool b
 | .str s=>.str s
 | .nils=>.nils
 | .sl l=>.sl l
 | .nilm=>.nilm
 | .mref _ _=>.any
 | .omp m=>.omp m
 | .osl e sz l=>.osl e sz l
 | .vv x=>.vv x
 | .lk i x=>if i=id then .any else .lk i x
 | .fn f c=>.fn f c
 | .fno f c=>.fno f (jV id c)
 | .nilf=>.nilf
 | .nilp=>.nilp
 | .cptr cs=>.cptr cs
 | .any=>.any
def jV(id:Nat):c6→c6
 | []=>[]
 | c::r=>c.cY id::jV id r
end
theorem mu{id}:∀{l} {i:Nat} {x},(jV id l)[i]?=some x→∃y,l[i]?=some y∧x=y.cY id
 | [],i,x,h=>by grind[jV]
 | c::r,0,x,h=>by grind[jV]
 | c::r,i+1,x,h=>by simp[jV]at h;obtain⟨y,a,b⟩:=mu h;grind
theorem mY{id}:∀l,(jV id l).length=l.length
 | []=>rfl
 | c::r=>by simp[jV,mY r]
theorem Rel.cY{N:Nat→Prop}{w:World}{ι:Env}{v:AV}{x:Value}(h:Rel N w ι v x){id:Nat}{ι':Env}(p:∀i,i≠id→ι' i=ι i):Rel N w ι' (v.cY id) x:=by
 induction h with
 | int ι k n=>simp only[AV.cY];exact .int _ _ _
 | bool ι b=>simp only[AV.cY];exact .bool _ _
 | str ι s=>simp only[AV.cY];exact .str _ _
 | nils ι=>simp only[AV.cY];exact .nils _
 | nilm ι=>simp only[AV.cY];exact .nilm _
 | mref ι i q r v h Q=>simp only[AV.cY];exact .any _ _ rfl
 | sl0 ι A c=>simp only[AV.cY];exact .sl0 _ _ _
 | sl ι l b o c sz t O z E d F e C u=>simp only[AV.cY];exact .sl _ l b o c sz t O z E d F e C
 | fn ι f aO I D e u=>simp only[AV.cY];exact .fn _ f aO I D e
 | fno ι f aO I D e u =>
  simp only[AV.cY];exact .fno _ _ _ I (by rw[mY];exact D) (fun i x v H G=>by
   obtain⟨y,M,rfl⟩:=mu H;exact u i y v M G p)
 | nilf ι=>simp only[AV.cY];exact .nilf _
 | nilp ι=>simp only[AV.cY];exact .nilp _
 | any ι x h=>simp only[AV.cY];exact .any _ _ h
 | ptr ι i off g h =>
  simp only[AV.cY];split
  ·exact .any _ _ rfl
  ·rename_i a;exact .ptr _ _ _ _ ((p i a).trans h)
 | eptr ι i sz j off g n c h =>
  simp only[AV.cY];split
  ·exact .any _ _ rfl
  ·rename_i a;exact .eptr _ _ _ _ _ _ n c ((p i a).trans h)
 | sref ι i sz off m n c J A B h K =>
  simp only[AV.cY];split
  ·exact .any _ _ rfl
  ·rename_i a;exact .sref _ _ _ _ _ n c J A B ((p i a).trans h) K
 | adr ι g off=>simp only[AV.cY];exact .adr _ _ _
 | vv ι x h=>simp only[AV.cY];exact .vv _ _ h
 | lk ι i v x h d =>
  simp only[AV.cY];split
  ·exact .any _ _ d
  ·rename_i a;exact .lk _ _ _ _ ((p i a).trans h) d
 | pp ι i g off h =>
  simp only[AV.cY];split
  ·exact .any _ _ rfl
  ·rename_i a;exact .pp _ _ _ _ ((p i a).trans h)
 | sit ι i g s P h L E z =>
  simp only[AV.cY];split
  ·exact .any _ _ rfl
  ·rename_i a;exact .sit _ _ _ _ _ ((p i a).trans h) L E z
 | cptr ι cs b o t z E d F e u=>simp only[AV.cY];exact .cptr _ cs b o t z E d F e
 | ref ι i A n c h =>
  simp only[AV.cY];split
  ·exact .any _ _ rfl
  ·rename_i a;exact .ref _ _ _ _ _ ((p i a).trans h)
 | agg ι cs vs D d e u =>
  exact .agg _ _ vs (by grind[mY]) d (fun i x v H G=>by
   grind[mu])
 | tup ι cs vs D e u =>
  exact .tup _ _ vs (by grind[mY]) (fun i x v H G=>by
   grind[mu])
def dF(id:Nat):h8→h8
 | []=>[]
 | (k,v)::r=>(k,v.cY id)::dF id r
def fK(id:Nat):List h6→List h6
 | []=>[]
 | (k,v)::r=>(k,jV id v)::fK id r
theorem pM{id}:∀{l} {k} {v},look k (dF id l)=some v→∃u,look k l=some u∧v=u.cY id
 | [],k,v,h=>by cases h
 | (j,x)::r,k,v,h=>by
  simp only[dF,look]at h⊢;split at h
  ·grind
  ·rename_i e;rw[kb e];exact pM h
theorem kS{id}:∀{l} {k} {v},look k (fK id l)=some v→∃u,look k l=some u∧v=jV id u
 | [],k,v,h=>by cases h
 | (j,x)::r,k,v,h=>by
  simp only[fK,look]at h⊢;split at h
  ·grind
  ·rename_i e;rw[kb e];exact kS h
def rep(ι:Env)(id:Nat)(v:Value):Env:=fun i=>if i=id then some v else ι i
theorem vL ι id v:rep ι id v id=some v:=by simp[rep]
theorem D5 ι{id i} v(h:i≠id):rep ι id v i=ι i:=by grind[rep]
theorem Zq{P:Program}(w:World)(base:Nat)(t ty e:TypeId)(i:TypeInfo)(z:Value)(size bytes:Nat)(I:P.underlying t=some (.slice e))(G:P.info? e=some i)(Q:i.zero=some z)
  (r:i.size=size) (C:i.bytes=bytes) (R:z.cells.size=size) (N:0<size)
  (v:Value) (n:Nat) (xs:ee) (b:w.ownsRow base e size v n xs)
  (a:Addr) (m c:Nat) (news:ee) (E:news.length=m*size) (f:∀j u,news[j]?=some u→w.cell? (a.add j)=some u) (S:∀u∈news,u.oneCell'=true)
  (B:n+m≤maxLen) (d:(n+m)*bytes≤140737488355328) (y:base≤w.heap.size) :
  ∃v' w',(Builtin.append_ #[t,t] ty #[v,.slice (some a) m c]).run P w=.ok v' w'∧w'.ownsRow base e size v' (n+m) (xs++news)∧w.grownBy w' v.ownBlock ∧
   (bz (some v')=bz (some v)∨bz (some v')=some w.heap.size)∧(∀A k c,v'=.slice A k c→k=n+m)∧∃A k c,v'=.slice A k c:=by
 have M:=b;obtain⟨v',w',l,o,W,L⟩:=run_append_own (P:=P) w base t ty e i z size bytes I G Q r C R N v n xs b a m c news E f S B d y;have h:(∀A k c,v'=.slice A k c→k=n+m)∧∃A k c,v'=.slice A k c:=by
  obtain⟨F,Z⟩|⟨g,s,x,F,_⟩:=o.2
  ·exact⟨fun A k c e=>by rw[F]at e;injection e with _ e _;omega,_,_,_,F⟩
  ·exact⟨fun A k c e=>by rw[F]at e;injection e with _ e _;exact e.symm,_,_,_,F⟩
 refine⟨v',w',l,o,W,?_,h.1,h.2⟩;subst r;subst C;have H:n+m≤9223372036854775807:=by simp only[maxLen]at B;omega
 obtain⟨rfl,rfl⟩|⟨g,s,x,rfl,U,K,Y,V,J,O⟩:=b.2
 ·have hx:xs=[]:=List.eq_nil_of_length_eq_zero (by simpa using b.1);by_cases X:m=0
  ·have:=L.2 ⟨rfl,X⟩;left;rw[this]
  ·have p:=run_append_nil (P:=P) w t ty e i z I G Q a m c news E f (by omega) (by omega) (by have T:=d;simp only[Dy]at T;omega);rw[p]at l;injection l with l _
   right;rw[←l];rfl
 ·by_cases q:n+m≤s
  ·have D:n*i.size+news.length≤x.size:=by rw[E,J,← akt];exact abM _ q
   have p:=run_append_room (P:=P) w t ty e i I G g n s x K a m c news E f S q D;rw[p]at l;injection l with l _
   left;rw[←l];rfl
  ·have holds:∀j u,xs[j]?=some u→w.cell? ((⟨g,0,none⟩:Addr).add j)=some u:=b.cells (g:=g) rfl;have p:=run_append_grow (P:=P) w t ty e i z I G Q ⟨g,0,none⟩ n s xs b.1 holds a m c news E f (by omega) (by omega) (growslice_fits (by omega) d);rw[p]at l;injection l with l _
   right;rw[←l];rfl
theorem Z3{P:Program}(w:World)(t ty e:TypeId)(i:TypeInfo)(j:P.underlying t=some (.slice e))(h:P.info? e=some i)(base size:Nat)(v:Value)(n:Nat)(xs:ee)(d:w.ownsRow base e size v n xs)(A:Option Addr)(c:Nat):
  (Builtin.append_ #[t,t] ty #[v,.slice A 0 c]).run P w=.ok v w:=by
 have f:∀a:Addr,(loadCells a 0).run P w=.ok #[] w:=fun a=>by simp[loadCells,loadCellsFrom]
 obtain⟨rfl,rfl⟩|⟨g,l,m,rfl,o,r,b,p,q,k⟩:=d.2
 ·cases A with
  | none=>simp[Builtin.append_,pt j,sizeOf,typeInfo,h,Builtin.lenOf,Builtin.firstCells]
  | some a=>simp[Builtin.append_,pt j,sizeOf,typeInfo,h,Builtin.lenOf,Builtin.firstCells,f]
 ·cases A with
  | none=>simp[Builtin.append_,pt j,sizeOf,typeInfo,h,Builtin.lenOf,Builtin.firstCells,b,storeCells]
  | some a=>simp[Builtin.append_,pt j,sizeOf,typeInfo,h,Builtin.lenOf,Builtin.firstCells,f,b,storeCells]
def jS(P:Program)(T:TypeId):Option (TypeId×Nat×Nat) :=
 match P.underlying T with
 | some (.slice e)=>match P.info? e with
  | some i=>match i.zero with
   | some z=>if z.cells.size=i.size∧0<i.size then some (e,i.size,i.bytes) else none
   | none=>none
  | none=>none
 | _=>none
def nr(s:AS)(sz:Nat):AV→Option hZ
 | .nils=>some []
 | .sl l=>if l.all (fun e=>e.length == sz)=true then some l else none
 | .ref id=>match look id s.r with|some a=>if a.sz=sz∧id<TG then some a.l else none|none=>none
 | _=>none
def vN(P:Program)(s:AS)(d:Nat)(T:TypeId)(v x:AV):Option AS :=
 match jS P T with
 | some (e,sz,bytes)=>match nr s sz x with
  | some new=>match v with
   | .nils=>if has s.u d=true∨¬ (new.length≤maxLen∧new.length*bytes≤140737488355328) then none else some { t:=bm d (.ref d) (dF d s.t),o:=fK d s.o,r:=bm d ⟨e,sz,new⟩ s.r,u:=d::s.u }
   | .ref id=>match look id s.r with
    | some a=>if s.u.contains (da id)=false∧a.e=e∧a.sz=sz∧a.l.length+new.length≤maxLen∧(a.l.length+new.length)*bytes≤140737488355328 then
      some { t:=bm d (.ref id) (dF id s.t),o:=fK id s.o,r:=bm id { a with l:=a.l++new } s.r,u:=s.u } else none
    | none=>none
   | _=>none
  | none=>none
 | none=>none
theorem Nj{L:Cx}{s:AS}{a:Act}{w:World}{ι:Env}(I:aU L s a w ι){sz:Nat}{x:AV}{X:Value}{new:hZ}(h:nr s sz x=some new)(K:Rel (NN L.M ι) w ι x X):
  ∃A c,X=.slice A new.length c∧(∀e∈new,e.length=sz)∧(new=[]∨∃(ad:Addr) (vs:ee),A=some ad∧vs.length=new.length*sz∧(∀(j:Nat) (u:Value),vs[j]?=some u→w.cell? (ad.add j)=some u)∧(∀u∈vs,u.oneCell'=true) ∧
   ∀(j:Nat) (e:c6),new[j]?=some e→∀(i:Nat) (c:AV),e[i]?=some c→∃y,vs[j*sz+i]?=some y∧Rel (NN L.M ι) w bG c y):=by
 unfold nr at h;split at h
 ·injection h with h;subst h
  cases K;exact⟨_,_,rfl,fun e f=>(by cases f),.inl rfl⟩
 ·rename_i l;split at h
  ·rename_i G;injection h with h;subst h
   have hz:∀e∈l,e.length=sz:=fun e f=>by
    have:=List.all_eq_true.1 G e f;simpa using this
   cases K with
   | sl0 _ A c=>exact⟨A,c,rfl,hz,.inl rfl⟩
   | sl _ _ b o c d q B hb M C R W _ =>
    refine⟨_,c,rfl,hz,?_⟩;by_cases hl:l=[]
    ·exact .inl hl
    ·right;have J:d=sz:=by
      obtain⟨e,f⟩:=akY l hl;rw[←B e f,hz e f]
     subst J;have r:∀k,((List.range (l.length*d)).map fun k=>q (k / d) (k % d))[k]?=if k<l.length*d then some (q (k / d) (k % d)) else none:=fun k=>by
      by_cases E:k<l.length*d<;>simp[E]
     have p:∀k,k<l.length*d→0<d∧k / d<l.length∧k % d<d∧k / d*d+k % d=k:=fun k E=>by
      have m : 0<d:=by
       rcases Nat.eq_zero_or_pos d with h|h;· rw[h]at E;omega
       ·exact h
      refine⟨m,(Nat.div_lt_iff_lt_mul m).2 E,Nat.mod_lt _ m,?_⟩;rw[ak6];exact Nat.div_add_mod k d
     refine⟨⟨b,o,none⟩,_,rfl,(by simp:((List.range (l.length*d)).map fun k=>q (k / d) (k % d)).length=l.length*d),fun j u D=>?_,fun u hu=>?_,fun j e f i c hi=>?_⟩
     ·rw[r]at D;split at D
      ·rename_i E;injection D with D;subst D
       obtain⟨N,t,F,O⟩:=p j E;have f:=jt t;have T:=B _ (List.getElem_mem t);have:=R _ _ f (j % d) _ (jt (by rw[T];exact F));rw[aix];rw[ak7,O]at this;exact this
      ·cases D
     ·obtain⟨k,_,rfl⟩:=BY.1 hu;exact C _ _
     ·have U:j<l.length:=(jf.1 f).1;have H:i<d:=by have:=(jf.1 hi).1;rwa[B e (mm f)]at this
      have V:j*d+i<l.length*d:=by
       have:(j+1)*d≤l.length*d:=abM _ U;rw[akt,akU]at this;omega
      refine⟨q j i,?_,W j e f i c hi⟩;rw[r,lc V];have e1:(j*d+i) / d=j:=by rw[Nat.add_comm,Nat.add_mul_div_right _ _ (by omega),alW H,Dy]
      have e2:(j*d+i) % d=i:=by rw[Nat.add_comm,Nat.add_mul_mod_self_right,ak1 H]
      rw[e1,e2]
  ·cases h
 ·rename_i id;split at h
  ·rename_i ar Q;split at h
   ·rename_i z;obtain⟨z,e0⟩:=z;injection h with h;subst h
    cases K with
    | ref _ _ A n c hι =>
     obtain⟨v,xs,C,t,F,O,P⟩:=I.hs.arrs id ar Q (by rw[hι];rfl);have h5:∀(j:Nat) (e:c6),ar.l[j]?=some e→∀(i:Nat) (c:AV),e[i]?=some c→∃x,xs[j*ar.sz+i]?=some x∧Rel (NN L.M ι) w bG c x:=fun j e f i c R=>by
      obtain⟨x,K,W⟩:=P j e f i c R;exact⟨x,K,W.flat (by omega)⟩
     rw[hι]at C;injection C with C;subst C
     rw[z]at F h5 t;obtain⟨hv,N⟩|⟨g',b0,c0,hv,hb,hg,d0,a0,Y,Z⟩:=t.2
     ·injection hv with hA M S
      refine⟨A,c,?_,F,.inl (List.eq_nil_of_length_eq_zero N)⟩;rw[M,N]
     ·injection hv with hA M S
      subst hA;subst M;refine⟨_,c,rfl,F,.inr ⟨⟨g',0,none⟩,xs,rfl,t.1,t.cells (g:=g') (by rfl),O,h5⟩⟩
   ·cases h
  grind
 grind
theorem jc.grown{b}{v w w'}{c}(h:jc b v w)(a:w.grownBy w' c)(g:b.w.heap.size≤w.heap.size)(f:∀k,c=some k→b.O k):jc b v w' :=
 h.trans ⟨a.os,a.tape,a.output,a.size,fun k j i=>a.block k (by omega) (fun e=>(by rcases f k e.symm with d|d;omega;grind))⟩
theorem HS.app{M:Nat→Prop}{w0:aA}{w w':World}{ι:Env}{s:AS}(h:HS M w0 w ι s){id:Nat}{ar:co}{v v':Value}{xs news:ee}{new:hZ}
  (e0:w0.pv id=none) (l0:look id s.r=some ar) (E:ι id=some v) (z:w.ownsRow 0 ar.e ar.sz v ar.l.length xs) (b0:∀e∈ar.l,e.length=ar.sz) (X:∀x∈xs,x.oneCell'=true)
  (a0:∀(j:Nat) (e:c6),ar.l[j]?=some e→∀(i:Nat) (c:AV),e[i]?=some c→∃x,xs[j*ar.sz+i]?=some x∧gG (NN M ι) w (TG≤id) (ι (nm id (j*ar.sz+i))) c x)
  (K:w.ownsRow 0 ar.e ar.sz v ar.l.length xs→w'.ownsRow 0 ar.e ar.sz v' (ar.l.length+new.length) (xs++news)) (I:w.grownBy w' v.ownBlock) (n:bz (some v')=bz (some v)∨bz (some v')=some w.heap.size)
  (m0:∃A k c,v'=.slice A k c) (f0:∀e∈new,e.length=ar.sz) (c0:∀x∈news,x.oneCell'=true)
  (d0:∀(j:Nat) (e:c6),new[j]?=some e→∀(i:Nat) (c:AV),e[i]?=some c→∃x,news[j*ar.sz+i]?=some x∧Rel (NN M ι) w bG c x) (V:∀g,bz (some v')=some g→w0.O g∧g<w'.heap.size) :
  HS M w0 w' (rep ι id v') { t:=dF id s.t,o:=fK id s.o,r:=bm id { ar with l:=ar.l++new } s.r,u:=s.u } ∧
   (∀b,b<w.heap.size→NN M (rep ι id v') b→NN M ι b)∧(∀b,b<w.heap.size→¬ NN M ι b→w'.heap[b]?=w.heap[b]?):=by
 have Q:=K z;have H:v.ownBlock=bz (some v):=by
  rcases z.2 with⟨rfl,_⟩|⟨g,i0,k0,rfl,_⟩<;>rfl
 have R:∀b,b<w.heap.size→¬ NN M ι b→w'.heap[b]?=w.heap[b]?:=fun b D O=>I.block b D (fun e=>O (.inr ⟨id,by rw[E,← H];exact e.symm⟩));have O:∀b,b<w.heap.size→NN M (rep ι id v') b→NN M ι b:=fun b D G=>by
  rcases G with G|⟨i,G⟩
  ·exact .inl G
  ·by_cases e:i=id
   ·subst e;rw[vL]at G;rcases n with n|n
    ·exact .inr ⟨i,by rw[E,← n];exact G⟩
    ·rw[n]at G;injection G with G;omega
   ·rw[D5 _ _ e]at G;exact .inr ⟨i,G⟩
 have d:∀i,i≠id→rep ι id v' i=ι i:=fun i q=>D5 _ _ q;have Z:∀r,v ≠ .map r:=fun r e=>by subst e;rcases z.2 with⟨K,_⟩|⟨_,_,_,K,_⟩<;>cases K
 have ho:∀k r,ι k=some (.map r)→rep ι id v' k=some (.map r):=fun k r B=>by
  rw[d];exact B;intro e;subst e;rw[E]at B;injection B with B;exact Z _ B
 have W:∀k r,ι k=some (.map (some r))→w'.heap[r]?=w.heap[r]?:=fun k r B=>I.block r (h.j9 B) (fun e=>h.nV B E Z (by rw[←H];exact e.symm));refine⟨⟨?_,h.old,fun i y hy=>?_,fun i g p=>?_,fun i N g f m=>?_,fun i cs q=>?_,fun i a q=>?_,fun i cs q J=>?_,fun i a q J=>?_,fun i y J=>(by
  have e:i≠id:=fun e=>by subst e;rw[e0]at J;cases J
  exact⟨(d i e).trans (h.pin i y J).1,(h.pin i y J).2⟩)⟩,O,R⟩
 ·refine h.below.grown I h.below.size (fun k B=>?_);have:=h.own id k (by rw[E,← H];exact B);exact this.1
 ·by_cases e:i=id
  ·subst e;exact h.use i _ E
  ·rw[d i e]at hy;exact h.use i y hy
 ·by_cases e:i=id
  ·subst e;rw[vL]at p;exact V g p
  ·rw[d i e]at p;exact⟨(h.own i g p).1,by have:=(h.own i g p).2;have:=I.size;omega⟩
 ·by_cases e:i=id
  ·by_cases L:N=id
   ·omega
   ·subst e;rw[vL]at f;rw[d N L]at m;rcases n with n|n
    ·exact h.inj i N g (by rw[E,← n];exact f) m
    ·rw[n]at f;injection f with f;have:=(h.own N g m).2;omega
  ·by_cases L:N=id
   ·subst L;rw[vL]at m;rw[d i e]at f;rcases n with n|n
    ·exact h.inj i N g f (by rw[E,← n];exact m)
    ·rw[n]at m;injection m with m;have:=(h.own i g f).2;omega
   ·rw[d i e]at f;rw[d N L]at m;exact h.inj i N g f m
 ·obtain⟨u,h1,_⟩:=kS q;exact h.ko i u h1
 ·simp only[cv]at q;by_cases e:i=id
  ·subst e;exact h.use i _ E
  ·rw[kb e]at q;exact h.kr i a q
 ·obtain⟨u,h1,rfl⟩:=kS q;have e:i≠id:=by
   rintro rfl
   obtain⟨g,T,vs,F,_,_⟩:=h.objs i u h1 (by rw[E];rfl);rw[E]at F;injection F with F;subst F
   rcases z.2 with⟨K,_⟩|⟨_,_,_,K,_⟩<;>cases K
  rw[d i e]at J;obtain⟨g,T,vs,F,S,U⟩:=h.objs i u h1 J;have P:some g≠v.ownBlock:=by
   rw[H];intro L;exact e (h.inj i id g (by rw[F];rfl) (by rw[E];exact L.symm))
  refine⟨g,T,vs,(d i e).trans F,(I.block g (h.own i g (by rw[F];rfl)).2 P).trans S,by rw[mY];exact U.len,U.one,fun j x v C K=>?_⟩;obtain⟨y,hy,rfl⟩:=mu C;exact((U.rel j y v hy K).cY d).mono I.size (fun b D n=>O b D n) R (fun _ _ h=>h)
 ·simp only[cv]at q;by_cases e:i=id
  ·subst e;rw[lc rfl]at q;injection q with q;subst q
   refine⟨v',xs++news,vL _ _ _,by simpa using Q,fun e he=>?_,fun x C=>?_,fun j e he k c B=>?_⟩
   ·rcases n5.1 he with he|he
    ·exact b0 e he
    ·exact f0 e he
   ·rcases n5.1 C with C|C
    ·exact X x C
    ·exact c0 x C
   ·simp only[]at he⊢;have g0:xs.length=ar.l.length*ar.sz:=z.1;by_cases hj:j<ar.l.length
    ·rw[z3 hj]at he;obtain⟨x,C,Y⟩:=a0 j e he k c B;have D:=(jf.1 C).1;exact⟨x,by rw[z3 D];exact C,Y.mono I.size O R (ho _) (W _) (fun h=>h)⟩
    ·rw[Dj (by omega)]at he;obtain⟨x,C,Y⟩:=d0 _ e he k c B;refine⟨x,?_,.inl (Y.mono I.size O R (fun _ _ h=>h))⟩;have hm:ar.l.length*ar.sz≤j*ar.sz:=abM _ (by omega);rw[Dj (by omega),g0];have S:j*ar.sz+k-ar.l.length*ar.sz=(j-ar.l.length)*ar.sz+k:=by rw[Nat.sub_mul];omega
     rw[S];exact C
  ·rw[kb e]at q;rw[d i e]at J;obtain⟨v1,h0,F,S,U,e4,e5⟩:=h.arrs i a q J;refine⟨v1,h0,(d i e).trans F,fR S (fun g p=>?_),U,e4,fun j el hj k c B=>?_⟩
   ·have P:some g≠v.ownBlock:=by
     rw[H];intro L;exact e (h.inj i id g (by rw[F];exact p) (by rw[E];exact L.symm))
    exact I.block g (h.own i g (by rw[F];exact p)).2 P
   ·obtain⟨x,C,Y⟩:=e5 j el hj k c B;exact⟨x,C,Y.mono I.size O R (ho _) (W _) (fun h=>h)⟩
theorem Ri{α} k(v u:α):∀l,bm k v (bm k u l)=bm k v l
 | []=>by simp[bm]
 | (j,x)::r=>by
  by_cases h:k=j
  ·grind[bm]
  ·simp[bm,h,Ri k v u r]
theorem HS.nil{M:Nat→Prop}{H:aA}{w:World}{ι:Env}{s:AS}(h:HS M H w ι s){d:Nat}(E:has s.u d=false)(e:TypeId)(sz:Nat):
  HS M H w (ext ι d (.slice none 0 0)) { s with r:=bm d ⟨e,sz,[]⟩ s.r,u:=d::s.u }∧(∀b,NN M (ext ι d (.slice none 0 0)) b→NN M ι b):=by
 have B:=h.free E;have v:∀b,NN M (ext ι d (.slice none 0 0)) b→NN M ι b:=fun b l=>by
  rcases gg l with l|l
  ·exact l
  ·cases l
 have n:∀i g,bz (ext ι d (.slice none 0 0) i)=some g→bz (ι i)=some g:=fun i g o=>by
  by_cases e:i=d
  ·subst e;rw[cI]at o;cases o
  ·rwa[bS _ _ e]at o
 refine⟨⟨h.below,h.old,fun i y F=>?_,fun i g o=>h.own i g (n i g o),fun i G g o A=>h.inj i G g (n i g o) (n G g A),fun i cs f=>dY (h.ko i cs f),fun i a f=>?_,fun i cs f m=>?_,fun i a f m=>?_,fun i y m=>⟨ff B _ i y (h.pin i y m).1,qK (h.pin i y m).2⟩⟩,v⟩
 ·by_cases e:i=d
  ·subst e;exact jv _ _
  ·rw[bS _ _ e]at F;exact dY (h.use i y F)
 ·simp only[cv]at f;by_cases e:i=d
  ·subst e;exact jv _ _
  ·rw[kb e]at f;exact dY (h.kr i a f)
 ·have e:i≠d:=by rintro rfl;have:=h.ko i cs f;rw[E]at this;cases this
  rw[bS _ _ e]at m;obtain⟨g,T,vs,p,q,t⟩:=h.objs i cs f m;exact⟨g,T,vs,(bS _ _ e).trans p,q,t.mono (ll _) (fun b _ l=>v b l) (fun _ _ _=>rfl) (ff B _)⟩
 ·simp only[cv]at f;by_cases e:i=d
  ·subst e;rw[lc rfl]at f;injection f with f;subst f
   exact⟨.slice none 0 0,[],cI _ _ _,World.ownsRow_nil _ _ _ _,fun e z=>(by cases z),fun x C=>(by cases C),fun j e z=>by simp at z⟩
  ·rw[kb e]at f;rw[bS _ _ e]at m;obtain⟨Q,D,p,q,t,I,J⟩:=h.arrs i a f m;refine⟨Q,D,(bS _ _ e).trans p,q,t,I,fun j K N k c O=>?_⟩;obtain⟨x,C,P⟩:=J j K N k c O;exact⟨x,C,P.mono (ll _) (fun b _ l=>v b l) (fun _ _ _=>rfl) (fun r L=>ff B _ _ _ L) (fun _ _=>rfl) (fun h=>h)⟩
theorem abk{m:Cx}{s s':AS}{a:Act}{w:World}{ι:Env}(q:aU m s a w ι){d:Nat}(hd:d<m.n){T ty:TypeId}{v x:AV}{V X:Value}(h:vN m.P s d T v x=some s')(S:Rel (NN m.M ι) w ι v V)(hx:Rel (NN m.M ι) w ι x X):
  ∃y w' ι',(Builtin.append_ #[T,T] ty #[V,X]).run m.P w=.ok y w'∧aU m s' (a.put (some d) y) w' ι'∧(∀i,i≠d→ι i=none→ι' i=none):=by
 unfold vN at h;split at h
 case h_2=>cases h
 rename_i e sz bytes f;unfold jS at f;split at f
 case h_2=>cases f
 rename_i R hu;split at f
 case h_2=>cases f
 rename_i L p0;split at f
 case h_2=>cases f
 rename_i z hz;split at f
 case isFalse=>cases f
 rename_i m0;injection f with f
 injection f with W f
 injection f with n s0
 subst W;subst n;subst s0;split at h
 case h_2=>cases h
 rename_i new i0;obtain⟨A,c,rfl,y0,Z⟩:=Nj q i0 hx
 -- the general step,for a slice that has a name
 have key:∀{C:AS} {D:Env} {id:Nat} {ar:co},aU m C a w D→m.w0.pv id=none→look id C.r=some ar→D id=some V→ar.e=R→ar.sz=L.size→ar.l.length+new.length≤maxLen→(ar.l.length+new.length)*L.bytes≤140737488355328 →
   (∀{y:AV} {Y:Value},y.dg []=true→Rel (NN m.M ι) w ι y Y→Rel (NN m.M D) w D y Y)→(∀b,NN m.M D b→NN m.M ι b) →
   ∃y w' ι',(Builtin.append_ #[T,T] ty #[V,.slice A new.length c]).run m.P w=.ok y w'∧aU m { t:=bm d (.ref id) (dF id C.t),o:=fK id C.o,r:=bm id { ar with l:=ar.l++new } C.r,u:=C.u } (a.put (some d) y) w' ι'∧(∀i,D i=none→ι' i=none):=by
  intro C D id ar n k0 H E r0 has h0 t0 _ G;obtain⟨v1,xs,h1,h2,h3,h4,h5⟩:=n.hs.arrs id ar H (by rw[E];rfl);rw[E]at h1;injection h1 with h1;subst h1
  have F:∀(v':Value) (i:Nat),D i=none→rep D id v' i=none:=fun v' i J=>by
   rw[D5];exact J
   rintro rfl;rw[E]at J;cases J
  have d0:∀{v':Value} {w':World},(HS m.M m.w0 w' (rep D id v') { t:=dF id C.t,o:=fK id C.o,r:=bm id { ar with l:=ar.l++new } C.r,u:=C.u }∧(∀b,b<w.heap.size→NN m.M (rep D id v') b→NN m.M D b)∧(∀b,b<w.heap.size→¬ NN m.M D b→w'.heap[b]?=w.heap[b]?))→w.heap.size≤w'.heap.size→(∃A k c,v'=.slice A k c) →
    aU m { t:=bm d (.ref id) (dF id C.t),o:=fK id C.o,r:=bm id { ar with l:=ar.l++new } C.r,u:=C.u } (a.put (some d) v') w' (rep D id v'):=by
   intro v' w' ⟨g1,g2,g3⟩ o0 ⟨A',k',c',O⟩;have M:aU m { t:=dF id C.t,o:=fK id C.o,r:=bm id { ar with l:=ar.l++new } C.r,u:=C.u } a w' (rep D id v'):=by
    refine⟨g1,n.dfr,n.n,fun k y hk=>?_⟩;obtain⟨u,A0,rfl⟩:=pM hk;obtain⟨Y,hY,hr⟩:=n.tmp k u A0;exact⟨Y,hY,(hr.cY (fun i J=>D5 _ _ J)).mono o0 g2 g3 (fun _ _ h=>h)⟩
   subst O;exact M.put (d:=some d) (fun k hk=>by injection hk with hk;subst hk;exact hd) (.ref _ _ _ _ _ (vL _ _ _))
  subst r0;rcases Z with K|⟨ad,vs,hA,T0,S0,q0,a1⟩
  ·subst K;have p:=Z3 (P:=m.P) w T ty ar.e L hu p0 0 ar.sz V ar.l.length xs h2 A c;refine⟨V,w,rep D id V,by simpa using p,d0 ?_ (ll _) ?_,F _⟩
   ·refine n.hs.app (news:=[]) k0 H E h2 h3 h4 h5 (fun h=>by simpa using h) ⟨rfl,rfl,rfl,ll _,fun _ _ _=>rfl⟩ (.inl rfl) ?_ (fun e W=>by cases W) (fun x hx=>by cases hx) (fun j e W=>by simp at W) (fun g N=>n.hs.own id g (by rw[E];exact N));rcases h2.2 with⟨S,_⟩|⟨g,a0,b0,S,_⟩<;>exact⟨_,_,_,S⟩
   ·rcases h2.2 with⟨S,_⟩|⟨g,a0,b0,S,_⟩<;>exact⟨_,_,_,S⟩
  ·subst hA;obtain⟨v',w',p,l0,g0,U,hk,O⟩:=Zq (P:=m.P) w 0 T ty ar.e L z ar.sz L.bytes hu p0 hz has.symm rfl (by rw[has];exact m0.1) (by rw[has];exact m0.2) V ar.l.length xs h2 ad new.length c vs (by rw[has];exact T0) S0 q0 h0 t0 (u6 _);refine⟨v',w',rep D id v',p,d0 ?_ g0.size O,F _⟩;refine n.hs.app k0 H E h2 h3 h4 h5 (fun _=>l0) g0 U O (by rw[has];exact y0) q0 (fun j e W i c J=>?_) (fun g N=>?_)
   ·rw[has];obtain⟨y,hy,hr⟩:=a1 j e W i c J;exact⟨y,hy,hr.mono (ll _) (fun b _ M=>G b M) (fun _ _ _=>rfl) (fun _ _ h=>h)⟩
   ·obtain⟨Q,_⟩|⟨g2,a0,b0,Q,b1,w0,_⟩:=l0.2
    ·rw[Q]at N;cases N
    ·rw[Q]at N;injection N with N;simp only[]at N;subst N
     refine⟨?_,(qk.1 w0).1⟩;rw[Q]at U;rcases U with e|e
     ·exact(n.hs.own id g2 (by rw[E,← e];rfl)).1
     ·have R:some g2=some w.heap.size:=e;injection R with R;subst R
      exact .inl n.hs.below.size
 split at h
 ·split at h
  ·cases h
  ·rename_i B;injection h with h;subst h
   have e0:has s.u d=false:=by
    cases v0:has s.u d
    ·rfl
    ·exact absurd (.inl v0) B
   have f0:new.length≤maxLen∧new.length*L.bytes≤140737488355328:=by
    by_cases h':new.length≤maxLen∧new.length*L.bytes≤140737488355328
    ·exact h'
    ·exact absurd (.inr h') B
   cases S;obtain⟨K,G⟩:=q.hs.nil e0 R L.size;have hn:=q.hs.free e0;have n:aU m { s with r:=bm d ⟨R,L.size,[]⟩ s.r,u:=d::s.u } a w (ext ι d (.slice none 0 0)) :=
    q.world K rfl (ll _) (fun b _ M=>G b M) (fun _ _ _=>rfl) (ff hn _)
   obtain⟨y,w',ι',p,I,F⟩:=key (id:=d) (ar:=⟨R,L.size,[]⟩) n (by cases hp:m.w0.pv d with|none=>rfl|some y=>have:=(q.hs.pin d y hp).1;rw[hn]at this;cases this) (by simp[cv]) (cI _ _ _) rfl rfl (by simpa using f0.1) (by simpa using f0.2)
    (fun hp hr=>(hr.pure hp _).mono (ll _) (fun b _ M=>G b M) (fun _ _ _=>rfl) (fun _ _ h=>h)) G
   refine⟨y,w',ι',p,?_,fun i J x0=>F i ((bS _ _ J).trans x0)⟩;simpa[Ri]using I
 ·split at h
  ·rename_i id _ ar H;split at h
   ·rename_i B;injection h with h;subst h
    obtain⟨c0,c1,c2,c3,c4⟩:=B;cases S with
    | ref _ _ A' n' c' hι =>
     obtain⟨y,w',ι',p,I,F⟩:=key q (by cases hp:m.w0.pv id with|none=>rfl|some y=>have:=(q.hs.pin id y hp).2;rw[c0]at this;cases this) H hι c1 c2 c3 c4 (fun hp hr=>hr) (fun b M=>M);exact⟨y,w',ι',p,I,fun i _ J=>F i J⟩
   ·cases h
  ·cases h
 ·cases h
end Go.Proofs.YtocgkfoifehcbaaGreat

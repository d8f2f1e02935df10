/- Append on abstract values. No program in sight. -/
import Derived.Test.YtocgkfoifehcbaaGreatRdAop3
import Derived.Laws.AppendOwn
namespace Go.Proofs.YtocgkfoifehcbaaGreat
set_option linter.all false
open Go.RowKit
abbrev h7:=Nat×c6
abbrev il:=List er
def q7:=@Array.getElem?_eq_some_iff
def u4:=@Nat.zero_le
def alo:=@Nat.mod_eq_of_lt
def alx:=@List.exists_mem_of_ne_nil
def ams:=@Nat.div_eq_of_lt
def amY:=@Nat.mod_lt
mutual
def AV.cO(id:Nat):AV→AV
 | .ref i=>if i=id then .any else .ref i
 | .eptr i sz j off=>if i=id then .any else .eptr i sz j off
 | .sref i sz off m=>if i=id then .any else .sref i sz off m
 | .ptr i off=>if i=id then .any else .ptr i off
 | .pp i g off=>if i=id then .any else .pp i g off
 | .sit i g s p=>if i=id then .any else .sit i g s p
 | .adr g off=>.adr g off
 | .agg cs=>.agg (jS id cs)
 | .tup cs=>.tup (jS id cs)
 | .int k n=>.int k n
 | .bool b=>.bool b
 | .str s=>.str s
 | .nils=>.nils
 | .sl l=>.sl l
 | .nilm=>.nilm
 | .mref _ _=>.any
 | .omp m=>.omp m
 | .osl e sz l=>.osl e sz l
 | .vv x=>.vv x
 | .lk i x=>if i=id then .any else .lk i x
 | .fn f c=>.fn f c
 | .fno f c=>.fno f (jS id c)
 | .nilf=>.nilf
 | .nilp=>.nilp
 | .cptr cs=>.cptr cs
 | .any=>.any
def jS(id:Nat):c6→c6
 | []=>[]
 | c::r=>c.cO id::jS id r
end
theorem lq{id}:∀{l} {i:Nat} {x},(jS id l)[i]?=some x→∃y,l[i]?=some y∧x=y.cO id
 | [],i,x,h=>by grind[jS]
 | c::r,0,x,h=>by grind[jS]
 | c::r,i+1,x,h=>by simp[jS]at h;obtain⟨y,a,b⟩:=lq h;grind
theorem l5{id}:∀l,(jS id l).length=l.length
 | []=>rfl
 | c::r=>by simp[jS,l5 r]
theorem Rel.cO{N:Nat→Prop}{w:World}{ι:Env}{v:AV}{x:Value}(h:Rel N w ι v x){id:Nat}{ι':Env}(p:∀i,i≠id→ι' i=ι i):Rel N w ι' (v.cO id) x:=by
 induction h with
 | int ι k n=>simp only[AV.cO];exact .int _ _ _
 | bool ι b=>simp only[AV.cO];exact .bool _ _
 | str ι s=>simp only[AV.cO];exact .str _ _
 | nils ι=>simp only[AV.cO];exact .nils _
 | nilm ι=>simp only[AV.cO];exact .nilm _
 | mref ι i q r v h Q=>simp only[AV.cO];exact .any _ _ rfl
 | sl0 ι A c=>simp only[AV.cO];exact .sl0 _ _ _
 | sl ι l b o c sz t O z E d F e C u=>simp only[AV.cO];exact .sl _ l b o c sz t O z E d F e C
 | fn ι f aR I D e u=>simp only[AV.cO];exact .fn _ f aR I D e
 | fno ι f aR I D e u =>
  simp only[AV.cO];exact .fno _ _ _ I (by rw[l5];exact D) (fun i x v H G=>by
   obtain⟨y,M,rfl⟩:=lq H;exact u i y v M G p)
 | nilf ι=>simp only[AV.cO];exact .nilf _
 | nilp ι=>simp only[AV.cO];exact .nilp _
 | any ι x h=>simp only[AV.cO];exact .any _ _ h
 | ptr ι i off g h =>
  simp only[AV.cO];split
  ·exact .any _ _ rfl
  ·rename_i a;exact .ptr _ _ _ _ ((p i a).trans h)
 | eptr ι i sz j off g n c h =>
  simp only[AV.cO];split
  ·exact .any _ _ rfl
  ·rename_i a;exact .eptr _ _ _ _ _ _ n c ((p i a).trans h)
 | sref ι i sz off m n c J A B h K =>
  simp only[AV.cO];split
  ·exact .any _ _ rfl
  ·rename_i a;exact .sref _ _ _ _ _ n c J A B ((p i a).trans h) K
 | adr ι g off=>simp only[AV.cO];exact .adr _ _ _
 | vv ι x h=>simp only[AV.cO];exact .vv _ _ h
 | lk ι i v x h d =>
  simp only[AV.cO];split
  ·exact .any _ _ d
  ·rename_i a;exact .lk _ _ _ _ ((p i a).trans h) d
 | pp ι i g off h =>
  simp only[AV.cO];split
  ·exact .any _ _ rfl
  ·rename_i a;exact .pp _ _ _ _ ((p i a).trans h)
 | sit ι i g s P h L E z =>
  simp only[AV.cO];split
  ·exact .any _ _ rfl
  ·rename_i a;exact .sit _ _ _ _ _ ((p i a).trans h) L E z
 | cptr ι cs b o t z E d F e u=>simp only[AV.cO];exact .cptr _ cs b o t z E d F e
 | ref ι i A n c h =>
  simp only[AV.cO];split
  ·exact .any _ _ rfl
  ·rename_i a;exact .ref _ _ _ _ _ ((p i a).trans h)
 | agg ι cs vs D d e u =>
  exact .agg _ _ vs (by grind[l5]) d (fun i x v H G=>by
   grind[lq])
 | tup ι cs vs D e u =>
  exact .tup _ _ vs (by grind[l5]) (fun i x v H G=>by
   grind[lq])
def dw(id:Nat):il→il
 | []=>[]
 | (k,v)::r=>(k,v.cO id)::dw id r
def eV(id:Nat):List h7→List h7
 | []=>[]
 | (k,v)::r=>(k,jS id v)::eV id r
theorem ow{id}:∀{l} {k} {v},look k (dw id l)=some v→∃u,look k l=some u∧v=u.cO id
 | [],k,v,h=>by cases h
 | (j,x)::r,k,v,h=>by
  simp only[dw,look]at h⊢;split at h
  ·grind
  ·rename_i e;rw[kc e];exact ow h
theorem jB{id}:∀{l} {k} {v},look k (eV id l)=some v→∃u,look k l=some u∧v=jS id u
 | [],k,v,h=>by cases h
 | (j,x)::r,k,v,h=>by
  simp only[eV,look]at h⊢;split at h
  ·grind
  ·rename_i e;rw[kc e];exact jB h
def rep(ι:Env)(id:Nat)(v:Value):Env:=fun i=>if i=id then some v else ι i
theorem nc ι id v:rep ι id v id=some v:=by simp[rep]
theorem uT ι{id i} v(h:i≠id):rep ι id v i=ι i:=by grind[rep]
theorem XY{P:Program}(w:World)(base:Nat)(t ty e:TypeId)(i:TypeInfo)(z:Value)(size bytes:Nat)(H:P.underlying t=some (.slice e))(hi:P.info? e=some i)(O:i.zero=some z)
  (r:i.size=size) (C:i.bytes=bytes) (Q:z.cells.size=size) (M:0<size)
  (v:Value) (n:Nat) (xs:eg) (b:w.ownsRow base e size v n xs)
  (a:Addr) (m c:Nat) (news:eg) (E:news.length=m*size) (f:∀j u,news[j]?=some u→w.cell? (a.add j)=some u) (R:∀u∈news,u.oneCell'=true)
  (B:n+m≤maxLen) (d:(n+m)*bytes≤140737488355328) (y:base≤w.heap.size) :
  ∃v' w',(Builtin.append_ #[t,t] ty #[v,.slice (some a) m c]).run P w=.ok v' w'∧w'.ownsRow base e size v' (n+m) (xs++news)∧w.grownBy w' v.ownBlock ∧
   (bu (some v')=bu (some v)∨bu (some v')=some w.heap.size)∧(∀A k c,v'=.slice A k c→k=n+m)∧∃A k c,v'=.slice A k c:=by
 have L:=b;obtain⟨v',w',l,o,V,K⟩:=run_append_own (P:=P) w base t ty e i z size bytes H hi O r C Q M v n xs b a m c news E f R B d y;have h:(∀A k c,v'=.slice A k c→k=n+m)∧∃A k c,v'=.slice A k c:=by
  obtain⟨F,Y⟩|⟨g,s,x,F,_⟩:=o.2
  ·exact⟨fun A k c e=>by rw[F]at e;injection e with _ e _;omega,_,_,_,F⟩
  ·exact⟨fun A k c e=>by rw[F]at e;injection e with _ e _;exact e.symm,_,_,_,F⟩
 refine⟨v',w',l,o,V,?_,h.1,h.2⟩;subst r;subst C;have G:n+m≤9223372036854775807:=by simp only[maxLen]at B;omega
 obtain⟨rfl,rfl⟩|⟨g,s,x,rfl,T,J,X,U,I,N⟩:=b.2
 ·have Z:xs=[]:=List.eq_nil_of_length_eq_zero (by simpa using b.1);by_cases W:m=0
  ·have:=K.2 ⟨rfl,W⟩;left;rw[this]
  ·have p:=run_append_nil (P:=P) w t ty e i z H hi O a m c news E f (by omega) (by omega) (by have S:=d;simp only[IF]at S;omega);rw[p]at l;injection l with l _
   right;rw[←l];rfl
 ·by_cases q:n+m≤s
  ·have D:n*i.size+news.length≤x.size:=by rw[E,I,← ajK];exact IN _ q
   have p:=run_append_room (P:=P) w t ty e i H hi g n s x J a m c news E f R q D;rw[p]at l;injection l with l _
   left;rw[←l];rfl
  ·have holds:∀j u,xs[j]?=some u→w.cell? ((⟨g,0,none⟩:Addr).add j)=some u:=b.cells (g:=g) rfl;have p:=run_append_grow (P:=P) w t ty e i z H hi O ⟨g,0,none⟩ n s xs b.1 holds a m c news E f (by omega) (by omega) (growslice_fits (by omega) d);rw[p]at l;injection l with l _
   right;rw[←l];rfl
theorem afp{P:Program}(w:World)(t ty e:TypeId)(i:TypeInfo)(h:P.underlying t=some (.slice e))(hi:P.info? e=some i)(base size:Nat)(v:Value)(n:Nat)(xs:eg)(d:w.ownsRow base e size v n xs)(A:Option Addr)(c:Nat):
  (Builtin.append_ #[t,t] ty #[v,.slice A 0 c]).run P w=.ok v w:=by
 have f:∀a:Addr,(loadCells a 0).run P w=.ok #[] w:=fun a=>by simp[loadCells,loadCellsFrom]
 obtain⟨rfl,rfl⟩|⟨g,k,l,rfl,m,q,b,o,p,j⟩:=d.2
 ·cases A with
  | none=>simp[Builtin.append_,ob h,sizeOf,typeInfo,hi,Builtin.lenOf,Builtin.firstCells]
  | some a=>simp[Builtin.append_,ob h,sizeOf,typeInfo,hi,Builtin.lenOf,Builtin.firstCells,f]
 ·cases A with
  | none=>simp[Builtin.append_,ob h,sizeOf,typeInfo,hi,Builtin.lenOf,Builtin.firstCells,b,storeCells]
  | some a=>simp[Builtin.append_,ob h,sizeOf,typeInfo,hi,Builtin.lenOf,Builtin.firstCells,f,b,storeCells]
def ja(P:Program)(T:TypeId):Option (TypeId×Nat×Nat) :=
 match P.underlying T with
 | some (.slice e)=>match P.info? e with
  | some i=>match i.zero with
   | some z=>if z.cells.size=i.size∧0<i.size then some (e,i.size,i.bytes) else none
   | none=>none
  | none=>none
 | _=>none
def oI(s:AS)(sz:Nat):AV→Option h6
 | .nils=>some []
 | .sl l=>if l.all (fun e=>e.length == sz)=true then some l else none
 | .ref id=>match look id s.r with|some a=>if a.sz=sz∧id<TG then some a.l else none|none=>none
 | _=>none
def zK(P:Program)(s:AS)(d:Nat)(T:TypeId)(v x:AV):Option AS :=
 match ja P T with
 | some (e,sz,bytes)=>match oI s sz x with
  | some new=>match v with
   | .nils=>if has s.u d=true∨¬ (new.length≤maxLen∧new.length*bytes≤140737488355328) then none else some { t:=bd d (.ref d) (dw d s.t),o:=eV d s.o,r:=bd d ⟨e,sz,new⟩ s.r,u:=d::s.u }
   | .ref id=>match look id s.r with
    | some a=>if s.u.contains (da id)=false∧a.e=e∧a.sz=sz∧a.l.length+new.length≤maxLen∧(a.l.length+new.length)*bytes≤140737488355328 then
      some { t:=bd d (.ref id) (dw id s.t),o:=eV id s.o,r:=bd id { a with l:=a.l++new } s.r,u:=s.u } else none
    | none=>none
   | _=>none
  | none=>none
 | none=>none
theorem Up{L:Cx}{s:AS}{a:Act}{w:World}{ι:Env}(I:aV L s a w ι){sz:Nat}{x:AV}{X:Value}{new:h6}(h:oI s sz x=some new)(K:Rel (NN L.M ι) w ι x X):
  ∃A c,X=.slice A new.length c∧(∀e∈new,e.length=sz)∧(new=[]∨∃(ad:Addr) (vs:eg),A=some ad∧vs.length=new.length*sz∧(∀(j:Nat) (u:Value),vs[j]?=some u→w.cell? (ad.add j)=some u)∧(∀u∈vs,u.oneCell'=true) ∧
   ∀(j:Nat) (e:c6),new[j]?=some e→∀(i:Nat) (c:AV),e[i]?=some c→∃y,vs[j*sz+i]?=some y∧Rel (NN L.M ι) w bH c y):=by
 unfold oI at h;split at h
 ·injection h with h;subst h
  cases K;exact⟨_,_,rfl,fun e f=>(by cases f),.inl rfl⟩
 ·rename_i l;split at h
  ·rename_i G;injection h with h;subst h
   have hz:∀e∈l,e.length=sz:=fun e f=>by
    have:=List.all_eq_true.1 G e f;simpa using this
   cases K with
   | sl0 _ A c=>exact⟨A,c,rfl,hz,.inl rfl⟩
   | sl _ _ b o c d q B hb M C R W _ =>
    refine⟨_,c,rfl,hz,?_⟩;by_cases hl:l=[]
    ·exact .inl hl
    ·right;have J:d=sz:=by
      obtain⟨e,f⟩:=alx l hl;rw[←B e f,hz e f]
     subst J;have r:∀k,((List.range (l.length*d)).map fun k=>q (k / d) (k % d))[k]?=if k<l.length*d then some (q (k / d) (k % d)) else none:=fun k=>by
      by_cases E:k<l.length*d<;>simp[E]
     have p:∀k,k<l.length*d→0<d∧k / d<l.length∧k % d<d∧k / d*d+k % d=k:=fun k E=>by
      have m : 0<d:=by
       rcases Nat.eq_zero_or_pos d with h|h;· rw[h]at E;omega
       ·exact h
      refine⟨m,(Nat.div_lt_iff_lt_mul m).2 E,amY _ m,?_⟩;rw[als];exact Nat.div_add_mod k d
     refine⟨⟨b,o,none⟩,_,rfl,(by simp:((List.range (l.length*d)).map fun k=>q (k / d) (k % d)).length=l.length*d),fun j u D=>?_,fun u hu=>?_,fun j e f i c hi=>?_⟩
     ·rw[r]at D;split at D
      ·rename_i E;injection D with D;subst D
       obtain⟨N,t,F,O⟩:=p j E;have f:=j3 t;have T:=B _ (List.getElem_mem t);have:=R _ _ f (j % d) _ (j3 (by rw[T];exact F));rw[akR];rw[alD,O]at this;exact this
      ·cases D
     ·obtain⟨k,_,rfl⟩:=Dy.1 hu;exact C _ _
     ·have U:j<l.length:=(jt.1 f).1;have H:i<d:=by have:=(jt.1 hi).1;rwa[B e (mm f)]at this
      have V:j*d+i<l.length*d:=by
       have:(j+1)*d≤l.length*d:=IN _ U;rw[ajK,ak9]at this;omega
      refine⟨q j i,?_,W j e f i c hi⟩;rw[r,lp V];have e1:(j*d+i) / d=j:=by rw[Nat.add_comm,Nat.add_mul_div_right _ _ (by omega),ams H,IF]
      have e2:(j*d+i) % d=i:=by rw[Nat.add_comm,Nat.add_mul_mod_self_right,alo H]
      rw[e1,e2]
  ·cases h
 ·rename_i id;split at h
  ·rename_i ar Q;split at h
   ·rename_i z;obtain⟨z,e0⟩:=z;injection h with h;subst h
    cases K with
    | ref _ _ A n c hι =>
     obtain⟨v,xs,C,t,F,O,P⟩:=I.hs.arrs id ar Q (by rw[hι];rfl);have h5:∀(j:Nat) (e:c6),ar.l[j]?=some e→∀(i:Nat) (c:AV),e[i]?=some c→∃x,xs[j*ar.sz+i]?=some x∧Rel (NN L.M ι) w bH c x:=fun j e f i c R=>by
      obtain⟨x,K,W⟩:=P j e f i c R;exact⟨x,K,W.flat (by omega)⟩
     rw[hι]at C;injection C with C;subst C
     rw[z]at F h5 t;obtain⟨hv,N⟩|⟨g',b0,c0,hv,hb,hg,d0,a0,Y,Z⟩:=t.2
     ·injection hv with hA M S
      refine⟨A,c,?_,F,.inl (List.eq_nil_of_length_eq_zero N)⟩;rw[M,N]
     ·injection hv with hA M S
      subst hA;subst M;refine⟨_,c,rfl,F,.inr ⟨⟨g',0,none⟩,xs,rfl,t.1,t.cells (g:=g') (by rfl),O,h5⟩⟩
   ·cases h
  grind
 grind
theorem je.grown{b}{v w w'}{c}(h:je b v w)(a:w.grownBy w' c)(g:b.w.heap.size≤w.heap.size)(f:∀k,c=some k→b.O k):je b v w' :=
 h.trans ⟨a.os,a.tape,a.output,a.size,fun k j i=>a.block k (by omega) (fun e=>(by rcases f k e.symm with d|d;omega;grind))⟩
theorem HS.app{M:Nat→Prop}{w0:aB}{w w':World}{ι:Env}{s:AS}(h:HS M w0 w ι s){id:Nat}{ar:cj}{v v':Value}{xs news:eg}{new:h6}
  (e0:w0.pv id=none) (l0:look id s.r=some ar) (D:ι id=some v) (q:w.ownsRow 0 ar.e ar.sz v ar.l.length xs) (b0:∀e∈ar.l,e.length=ar.sz) (W:∀x∈xs,x.oneCell'=true)
  (a0:∀(j:Nat) (e:c6),ar.l[j]?=some e→∀(i:Nat) (c:AV),e[i]?=some c→∃x,xs[j*ar.sz+i]?=some x∧gv (NN M ι) w (TG≤id) (ι (nm id (j*ar.sz+i))) c x)
  (J:w.ownsRow 0 ar.e ar.sz v ar.l.length xs→w'.ownsRow 0 ar.e ar.sz v' (ar.l.length+new.length) (xs++news)) (H:w.grownBy w' v.ownBlock) (n:bu (some v')=bu (some v)∨bu (some v')=some w.heap.size)
  (m0:∃A k c,v'=.slice A k c) (f0:∀e∈new,e.length=ar.sz) (c0:∀x∈news,x.oneCell'=true)
  (d0:∀(j:Nat) (e:c6),new[j]?=some e→∀(i:Nat) (c:AV),e[i]?=some c→∃x,news[j*ar.sz+i]?=some x∧Rel (NN M ι) w bH c x) (U:∀g,bu (some v')=some g→w0.O g∧g<w'.heap.size) :
  HS M w0 w' (rep ι id v') { t:=dw id s.t,o:=eV id s.o,r:=bd id { ar with l:=ar.l++new } s.r,u:=s.u } ∧
   (∀b,b<w.heap.size→NN M (rep ι id v') b→NN M ι b)∧(∀b,b<w.heap.size→¬ NN M ι b→w'.heap[b]?=w.heap[b]?):=by
 have P:=J q;have G:v.ownBlock=bu (some v):=by
  rcases q.2 with⟨rfl,_⟩|⟨g,i0,k0,rfl,_⟩<;>rfl
 have Q:∀b,b<w.heap.size→¬ NN M ι b→w'.heap[b]?=w.heap[b]?:=fun b C N=>H.block b C (fun e=>N (.inr ⟨id,by rw[D,← G];exact e.symm⟩));have N:∀b,b<w.heap.size→NN M (rep ι id v') b→NN M ι b:=fun b C F=>by
  rcases F with F|⟨i,F⟩
  ·exact .inl F
  ·by_cases e:i=id
   ·subst e;rw[nc]at F;rcases n with n|n
    ·exact .inr ⟨i,by rw[D,← n];exact F⟩
    ·rw[n]at F;injection F with F;omega
   ·rw[uT _ _ e]at F;exact .inr ⟨i,F⟩
 have d:∀i,i≠id→rep ι id v' i=ι i:=fun i hi=>uT _ _ hi;have Y:∀r,v ≠ .map r:=fun r e=>by subst e;rcases q.2 with⟨J,_⟩|⟨_,_,_,J,_⟩<;>cases J
 have ho:∀k r,ι k=some (.map r)→rep ι id v' k=some (.map r):=fun k r z=>by
  rw[d];exact z;intro e;subst e;rw[D]at z;injection z with z;exact Y _ z
 have V:∀k r,ι k=some (.map (some r))→w'.heap[r]?=w.heap[r]?:=fun k r z=>H.block r (h.j6 z) (fun e=>h.nP z D Y (by rw[←G];exact e.symm));refine⟨⟨?_,h.old,fun i y hy=>?_,fun i g p=>?_,fun i L g f m=>?_,fun i cs hi=>?_,fun i a hi=>?_,fun i cs hi I=>?_,fun i a hi I=>?_,fun i y I=>(by
  have e:i≠id:=fun e=>by subst e;rw[e0]at I;cases I
  exact⟨(d i e).trans (h.pin i y I).1,(h.pin i y I).2⟩)⟩,N,Q⟩
 ·refine h.below.grown H h.below.size (fun k z=>?_);have:=h.own id k (by rw[D,← G];exact z);exact this.1
 ·by_cases e:i=id
  ·subst e;exact h.use i _ D
  ·rw[d i e]at hy;exact h.use i y hy
 ·by_cases e:i=id
  ·subst e;rw[nc]at p;exact U g p
  ·rw[d i e]at p;exact⟨(h.own i g p).1,by have:=(h.own i g p).2;have:=H.size;omega⟩
 ·by_cases e:i=id
  ·by_cases K:L=id
   ·omega
   ·subst e;rw[nc]at f;rw[d L K]at m;rcases n with n|n
    ·exact h.inj i L g (by rw[D,← n];exact f) m
    ·rw[n]at f;injection f with f;have:=(h.own L g m).2;omega
  ·by_cases K:L=id
   ·subst K;rw[nc]at m;rw[d i e]at f;rcases n with n|n
    ·exact h.inj i L g f (by rw[D,← n];exact m)
    ·rw[n]at m;injection m with m;have:=(h.own i g f).2;omega
   ·rw[d i e]at f;rw[d L K]at m;exact h.inj i L g f m
 ·obtain⟨u,Z,_⟩:=jB hi;exact h.ko i u Z
 ·simp only[cn]at hi;by_cases e:i=id
  ·subst e;exact h.use i _ D
  ·rw[kc e]at hi;exact h.kr i a hi
 ·obtain⟨u,Z,rfl⟩:=jB hi;have e:i≠id:=by
   rintro rfl
   obtain⟨g,T,vs,E,_,_⟩:=h.objs i u Z (by rw[D];rfl);rw[D]at E;injection E with E;subst E
   rcases q.2 with⟨J,_⟩|⟨_,_,_,J,_⟩<;>cases J
  rw[d i e]at I;obtain⟨g,T,vs,E,R,S⟩:=h.objs i u Z I;have O:some g≠v.ownBlock:=by
   rw[G];intro K;exact e (h.inj i id g (by rw[E];rfl) (by rw[D];exact K.symm))
  refine⟨g,T,vs,(d i e).trans E,(H.block g (h.own i g (by rw[E];rfl)).2 O).trans R,by rw[l5];exact S.len,S.one,fun j x v B J=>?_⟩;obtain⟨y,hy,rfl⟩:=lq B;exact((S.rel j y v hy J).cO d).mono H.size (fun b C n=>N b C n) Q (fun _ _ h=>h)
 ·simp only[cn]at hi;by_cases e:i=id
  ·subst e;rw[lp rfl]at hi;injection hi with hi;subst hi
   refine⟨v',xs++news,nc _ _ _,by simpa using P,fun e he=>?_,fun x B=>?_,fun j e he k c z=>?_⟩
   ·rcases n5.1 he with he|he
    ·exact b0 e he
    ·exact f0 e he
   ·rcases n5.1 B with B|B
    ·exact W x B
    ·exact c0 x B
   ·simp only[]at he⊢;have g0:xs.length=ar.l.length*ar.sz:=q.1;by_cases hj:j<ar.l.length
    ·rw[zt hj]at he;obtain⟨x,B,X⟩:=a0 j e he k c z;have C:=(jt.1 B).1;exact⟨x,by rw[zt C];exact B,X.mono H.size N Q (ho _) (V _) (fun h=>h)⟩
    ·rw[z3 (by omega)]at he;obtain⟨x,B,X⟩:=d0 _ e he k c z;refine⟨x,?_,.inl (X.mono H.size N Q (fun _ _ h=>h))⟩;have hm:ar.l.length*ar.sz≤j*ar.sz:=IN _ (by omega);rw[z3 (by omega),g0];have R:j*ar.sz+k-ar.l.length*ar.sz=(j-ar.l.length)*ar.sz+k:=by rw[Nat.sub_mul];omega
     rw[R];exact B
  ·rw[kc e]at hi;rw[d i e]at I;obtain⟨v1,h0,E,R,S,e4,e5⟩:=h.arrs i a hi I;refine⟨v1,h0,(d i e).trans E,fK R (fun g p=>?_),S,e4,fun j el hj k c z=>?_⟩
   ·have O:some g≠v.ownBlock:=by
     rw[G];intro K;exact e (h.inj i id g (by rw[E];exact p) (by rw[D];exact K.symm))
    exact H.block g (h.own i g (by rw[E];exact p)).2 O
   ·obtain⟨x,B,X⟩:=e5 j el hj k c z;exact⟨x,B,X.mono H.size N Q (ho _) (V _) (fun h=>h)⟩
theorem Sq{α} k(v u:α):∀l,bd k v (bd k u l)=bd k v l
 | []=>by simp[bd]
 | (j,x)::r=>by
  by_cases h:k=j
  ·grind[bd]
  ·simp[bd,h,Sq k v u r]
theorem HS.nil{M:Nat→Prop}{G:aB}{w:World}{ι:Env}{s:AS}(h:HS M G w ι s){d:Nat}(D:has s.u d=false)(e:TypeId)(sz:Nat):
  HS M G w (ext ι d (.slice none 0 0)) { s with r:=bd d ⟨e,sz,[]⟩ s.r,u:=d::s.u }∧(∀b,NN M (ext ι d (.slice none 0 0)) b→NN M ι b):=by
 have A:=h.free D;have t:∀b,NN M (ext ι d (.slice none 0 0)) b→NN M ι b:=fun b f=>by
  rcases gk f with f|f
  ·exact f
  ·cases f
 have m:∀i g,bu (ext ι d (.slice none 0 0) i)=some g→bu (ι i)=some g:=fun i g n=>by
  by_cases e:i=d
  ·subst e;rw[cJ]at n;cases n
  ·rwa[bS _ _ e]at n
 refine⟨⟨h.below,h.old,fun i y E=>?_,fun i g n=>h.own i g (m i g n),fun i F g n z=>h.inj i F g (m i g n) (m F g z),fun i cs hi=>dS (h.ko i cs hi),fun i a hi=>?_,fun i cs hi l=>?_,fun i a hi l=>?_,fun i y l=>⟨fd A _ i y (h.pin i y l).1,rF (h.pin i y l).2⟩⟩,t⟩
 ·by_cases e:i=d
  ·subst e;exact js _ _
  ·rw[bS _ _ e]at E;exact dS (h.use i y E)
 ·simp only[cn]at hi;by_cases e:i=d
  ·subst e;exact js _ _
  ·rw[kc e]at hi;exact dS (h.kr i a hi)
 ·have e:i≠d:=by rintro rfl;have:=h.ko i cs hi;rw[D]at this;cases this
  rw[bS _ _ e]at l;obtain⟨g,T,vs,o,p,q⟩:=h.objs i cs hi l;exact⟨g,T,vs,(bS _ _ e).trans o,p,q.mono (la _) (fun b _ f=>t b f) (fun _ _ _=>rfl) (fd A _)⟩
 ·simp only[cn]at hi;by_cases e:i=d
  ·subst e;rw[lp rfl]at hi;injection hi with hi;subst hi
   exact⟨.slice none 0 0,[],cJ _ _ _,World.ownsRow_nil _ _ _ _,fun e v=>(by cases v),fun x B=>(by cases B),fun j e v=>by simp at v⟩
  ·rw[kc e]at hi;rw[bS _ _ e]at l;obtain⟨P,C,o,p,q,H,I⟩:=h.arrs i a hi l;refine⟨P,C,(bS _ _ e).trans o,p,q,H,fun j J L k c N=>?_⟩;obtain⟨x,B,O⟩:=I j J L k c N;exact⟨x,B,O.mono (la _) (fun b _ f=>t b f) (fun _ _ _=>rfl) (fun r K=>fd A _ _ _ K) (fun _ _=>rfl) (fun h=>h)⟩
theorem aaF{m:Cx}{s s':AS}{a:Act}{w:World}{ι:Env}(q:aV m s a w ι){d:Nat}(hd:d<m.n){T ty:TypeId}{v x:AV}{V X:Value}(h:zK m.P s d T v x=some s')(R:Rel (NN m.M ι) w ι v V)(hx:Rel (NN m.M ι) w ι x X):
  ∃y w' ι',(Builtin.append_ #[T,T] ty #[V,X]).run m.P w=.ok y w'∧aV m s' (a.put (some d) y) w' ι'∧(∀i,i≠d→ι i=none→ι' i=none):=by
 unfold zK at h;split at h
 case h_2=>cases h
 rename_i e sz bytes f;unfold ja at f;split at f
 case h_2=>cases f
 rename_i Q hu;split at f
 case h_2=>cases f
 rename_i K p0;split at f
 case h_2=>cases f
 rename_i z hz;split at f
 case isFalse=>cases f
 rename_i m0;injection f with f
 injection f with U f
 injection f with n s0
 subst U;subst n;subst s0;split at h
 case h_2=>cases h
 rename_i new i0;obtain⟨A,c,rfl,y0,W⟩:=Up q i0 hx
 -- the general step,for a slice that has a name
 have key:∀{C:AS} {D:Env} {id:Nat} {ar:cj},aV m C a w D→m.w0.pv id=none→look id C.r=some ar→D id=some V→ar.e=Q→ar.sz=K.size→ar.l.length+new.length≤maxLen→(ar.l.length+new.length)*K.bytes≤140737488355328 →
   (∀{y:AV} {Y:Value},y.de []=true→Rel (NN m.M ι) w ι y Y→Rel (NN m.M D) w D y Y)→(∀b,NN m.M D b→NN m.M ι b) →
   ∃y w' ι',(Builtin.append_ #[T,T] ty #[V,.slice A new.length c]).run m.P w=.ok y w'∧aV m { t:=bd d (.ref id) (dw id C.t),o:=eV id C.o,r:=bd id { ar with l:=ar.l++new } C.r,u:=C.u } (a.put (some d) y) w' ι'∧(∀i,D i=none→ι' i=none):=by
  intro C D id ar n k0 H E r0 has h0 t0 _ G;obtain⟨v1,xs,h1,h2,h3,h4,h5⟩:=n.hs.arrs id ar H (by rw[E];rfl);rw[E]at h1;injection h1 with h1;subst h1
  have F:∀(v':Value) (i:Nat),D i=none→rep D id v' i=none:=fun v' i hi=>by
   rw[uT];exact hi
   rintro rfl;rw[E]at hi;cases hi
  have d0:∀{v':Value} {w':World},(HS m.M m.w0 w' (rep D id v') { t:=dw id C.t,o:=eV id C.o,r:=bd id { ar with l:=ar.l++new } C.r,u:=C.u }∧(∀b,b<w.heap.size→NN m.M (rep D id v') b→NN m.M D b)∧(∀b,b<w.heap.size→¬ NN m.M D b→w'.heap[b]?=w.heap[b]?))→w.heap.size≤w'.heap.size→(∃A k c,v'=.slice A k c) →
    aV m { t:=bd d (.ref id) (dw id C.t),o:=eV id C.o,r:=bd id { ar with l:=ar.l++new } C.r,u:=C.u } (a.put (some d) v') w' (rep D id v'):=by
   intro v' w' ⟨g1,g2,g3⟩ o0 ⟨A',k',c',N⟩;have L:aV m { t:=dw id C.t,o:=eV id C.o,r:=bd id { ar with l:=ar.l++new } C.r,u:=C.u } a w' (rep D id v'):=by
    refine⟨g1,n.dfr,n.n,fun k y hk=>?_⟩;obtain⟨u,A0,rfl⟩:=ow hk;obtain⟨Y,hY,Z⟩:=n.tmp k u A0;exact⟨Y,hY,(Z.cO (fun i hi=>uT _ _ hi)).mono o0 g2 g3 (fun _ _ h=>h)⟩
   subst N;exact L.put (d:=some d) (fun k hk=>by injection hk with hk;subst hk;exact hd) (.ref _ _ _ _ _ (nc _ _ _))
  subst r0;rcases W with J|⟨ad,vs,hA,T0,S0,q0,a1⟩
  ·subst J;have p:=afp (P:=m.P) w T ty ar.e K hu p0 0 ar.sz V ar.l.length xs h2 A c;refine⟨V,w,rep D id V,by simpa using p,d0 ?_ (la _) ?_,F _⟩
   ·refine n.hs.app (news:=[]) k0 H E h2 h3 h4 h5 (fun h=>by simpa using h) ⟨rfl,rfl,rfl,la _,fun _ _ _=>rfl⟩ (.inl rfl) ?_ (fun e U=>by cases U) (fun x hx=>by cases hx) (fun j e U=>by simp at U) (fun g M=>n.hs.own id g (by rw[E];exact M));rcases h2.2 with⟨R,_⟩|⟨g,a0,b0,R,_⟩<;>exact⟨_,_,_,R⟩
   ·rcases h2.2 with⟨R,_⟩|⟨g,a0,b0,R,_⟩<;>exact⟨_,_,_,R⟩
  ·subst hA;obtain⟨v',w',p,l0,g0,S,hk,N⟩:=XY (P:=m.P) w 0 T ty ar.e K z ar.sz K.bytes hu p0 hz has.symm rfl (by rw[has];exact m0.1) (by rw[has];exact m0.2) V ar.l.length xs h2 ad new.length c vs (by rw[has];exact T0) S0 q0 h0 t0 (u4 _);refine⟨v',w',rep D id v',p,d0 ?_ g0.size N,F _⟩;refine n.hs.app k0 H E h2 h3 h4 h5 (fun _=>l0) g0 S N (by rw[has];exact y0) q0 (fun j e U i c hi=>?_) (fun g M=>?_)
   ·rw[has];obtain⟨y,hy,Z⟩:=a1 j e U i c hi;exact⟨y,hy,Z.mono (la _) (fun b _ L=>G b L) (fun _ _ _=>rfl) (fun _ _ h=>h)⟩
   ·obtain⟨O,_⟩|⟨g2,a0,b0,O,b1,w0,_⟩:=l0.2
    ·rw[O]at M;cases M
    ·rw[O]at M;injection M with M;simp only[]at M;subst M
     refine⟨?_,(q7.1 w0).1⟩;rw[O]at S;rcases S with e|e
     ·exact(n.hs.own id g2 (by rw[E,← e];rfl)).1
     ·have Q:some g2=some w.heap.size:=e;injection Q with Q;subst Q
      exact .inl n.hs.below.size
 split at h
 ·split at h
  ·cases h
  ·rename_i B;injection h with h;subst h
   have e0:has s.u d=false:=by
    cases v0:has s.u d
    ·rfl
    ·exact absurd (.inl v0) B
   have f0:new.length≤maxLen∧new.length*K.bytes≤140737488355328:=by
    by_cases h':new.length≤maxLen∧new.length*K.bytes≤140737488355328
    ·exact h'
    ·exact absurd (.inr h') B
   cases R;obtain⟨J,G⟩:=q.hs.nil e0 Q K.size;have hn:=q.hs.free e0;have n:aV m { s with r:=bd d ⟨Q,K.size,[]⟩ s.r,u:=d::s.u } a w (ext ι d (.slice none 0 0)) :=
    q.world J rfl (la _) (fun b _ L=>G b L) (fun _ _ _=>rfl) (fd hn _)
   obtain⟨y,w',ι',p,I,F⟩:=key (id:=d) (ar:=⟨Q,K.size,[]⟩) n (by cases hp:m.w0.pv d with|none=>rfl|some y=>have:=(q.hs.pin d y hp).1;rw[hn]at this;cases this) (by simp[cn]) (cJ _ _ _) rfl rfl (by simpa using f0.1) (by simpa using f0.2)
    (fun hp Z=>(Z.pure hp _).mono (la _) (fun b _ L=>G b L) (fun _ _ _=>rfl) (fun _ _ h=>h)) G
   refine⟨y,w',ι',p,?_,fun i hi x0=>F i ((bS _ _ hi).trans x0)⟩;simpa[Sq]using I
 ·split at h
  ·rename_i id _ ar H;split at h
   ·rename_i B;injection h with h;subst h
    obtain⟨c0,c1,c2,c3,c4⟩:=B;cases R with
    | ref _ _ A' n' c' hι =>
     obtain⟨y,w',ι',p,I,F⟩:=key q (by cases hp:m.w0.pv id with|none=>rfl|some y=>have:=(q.hs.pin id y hp).2;rw[c0]at this;cases this) H hι c1 c2 c3 c4 (fun hp Z=>Z) (fun b L=>L);exact⟨y,w',ι',p,I,fun i _ hi=>F i hi⟩
   ·cases h
  ·cases h
 ·cases h
end Go.Proofs.YtocgkfoifehcbaaGreat

/- The operations on abstract values, second part: addresses, stores, new variables, literals, len, max, min. No program in sight. -/
import Derived.Test.YtocgkfoifehcbaaGreatRkAop
namespace Go.Proofs.YtocgkfoifehcbaaGreat
set_option linter.all false
open Go.RowKit
def n5:=@List.mem_append
def wl:=@List.mem_of_mem_take
def If:=@Array.length_toList
def IN:=@List.mem_of_mem_drop
def abM:=@Nat.mul_le_mul_right
def aix:=@Addr.add_mid
def akt:=@Nat.add_mul
def aky:=@List.getElem?_set
def akz:=@List.length_set
def akK:=@List.ext_getElem?
def akU:=@Nat.one_mul
def alM:=@List.mem_or_eq_of_mem_set
def alO:=@List.size_toArray
def wZ(k:Nat):AV→Option AV
 | .ptr id off=>some (.ptr id (off+k))
 | .cptr cs=>some (.cptr (cs.drop k))
 | .eptr id sz j off=>some (.eptr id sz j (off+k))
 | .adr g off=>some (.adr g (off+k))
 | .pp _ g off=>some (.adr g (off+k))
 | _=>none
theorem Vs{N:Nat→Prop}{w:World}{ι:Env}{k:Nat}{p q:AV}{x:Value}(h:wZ k p=some q)(a:Rel N w ι p x):
  ∃b o,x=.pointer (some ⟨b,o,none⟩)∧Rel N w ι q (.pointer (some ⟨b,o+k,none⟩)):=by
 unfold wZ at h;split at h<;>first|(cases h;done)|skip
 ·injection h with h;subst h
  cases a with
  | ptr _ _ _ g e=>exact⟨g,_,rfl,.ptr _ _ _ g e⟩
 ·injection h with h;subst h
  cases a with
  | cptr _ cs b o f l r j m s =>
   refine⟨b,o,rfl,.cptr _ _ b (o+k) (fun i=>f (k+i)) l r (fun i=>j _) (fun i x d=>?_) (fun i x d=>?_)⟩
   ·rw[ac9]at d;have:=m _ x d;rwa[←ak7]at this
   ·rw[ac9]at d;exact s _ x d
 ·injection h with h;subst h
  cases a with
  | eptr _ _ _ _ _ g n c e =>
   refine⟨g,_,rfl,?_⟩;rw[ak7];exact .eptr _ _ _ _ _ g n c e
 ·injection h with h;subst h
  cases a with
  | adr _ _ _=>exact⟨_,_,rfl,.adr _ _ _⟩
 ·injection h with h;subst h
  cases a with
  | pp _ _ _ _ _=>exact⟨_,_,rfl,.adr _ _ _⟩
theorem Xk{P:Program}{w:World}{N:Nat→Prop}{ι:Env}{T:TypeId}{f k:Nat}{p q:AV}{x:Value}(a:Hm P T f=some k)(h:wZ k p=some q)(l:Rel N w ι p x):
  ∃z,(Instr.fieldAt T x f).run P w=.ok z w∧Rel N w ι q z:=by
 obtain⟨b,o,rfl,n⟩:=Vs h l;unfold Hm at a;split at a
 ·rename_i t s;split at a
  ·rename_i g e;split at a
   ·rename_i m d;injection a with a;subst a
    refine⟨_,?_,n⟩;cases c:P.info? g.type with
    | none=>simp[cC,c]at d
    | some i =>
     have r:i.size=m+1:=by simpa[cC,c]using d
     have j:¬ i.size=0:=by omega
     simp[Instr.fieldAt,pt s,e,Instr.sureAddr,fieldPlace,sizeOf,typeInfo,c,r,aix]
   grind
  grind
 grind
def A8(P:Program)(s:AS)(T:TypeId)(x:AV)(i:Int):Option AV :=
 if 0≤i then
  match nK P T with
  | some (n,k)=>if i.toNat<n then wZ (i.toNat*k) x else none
  | none=>match gu P T with
   | some (_,k)=>match x with
    | .sl l=>match l[i.toNat]? with
     | some e=>if e.length=k then some (.cptr e) else none
     | none=>none
    | .ref id=>match look id s.r with
     | some a=>if a.sz=k∧i.toNat<a.l.length then some (.eptr id k i.toNat 0) else none
     | none=>none
    | .sref id sz off m=>if sz=k∧i.toNat<m then some (.eptr id k (off+i.toNat) 0) else none
    | _=>none
   | none=>none
 else none
theorem Yc{y:Cx}{s:AS}{a:Act}{w:World}{ι:Env}(J:aU y s a w ι){T:TypeId}{x r:AV}{k:IntKind}{i:Int}(h:A8 y.P s T x i=some r){X:Value}(O:Rel (NN y.M ι) w ι x X):
  ∃z,(Instr.indexAt T X (.int k i)).run y.P w=.ok z w∧Rel (NN y.M ι) w ι r z:=by
 unfold A8 at h;split at h
 ·rename_i N;split at h
  ·rename_i n sz j;split at h
   ·rename_i G;obtain⟨b,o,rfl,hq⟩:=Vs h O;refine⟨_,?_,hq⟩;unfold nK at j;split at j
    ·rename_i n' e L;cases C:cC y.P e with
     | none=>rw[C]at j;cases j
     | some u =>
      rw[C]at j;injection j with j;injection j with H Q;subst H;subst Q
      cases f:y.P.info? e with
      | none=>simp[cC,f]at C
      | some V =>
       have I:V.size=u:=by simpa[cC,f]using C
       have d:i<(n':Int):=by omega
       simp[Instr.indexAt,asIntOf,pt L,Instr.sureAddr,N,d,sizeOf,typeInfo,f,I,aix]
    ·cases j
   ·cases h
  ·split at h
   ·rename_i e sz p;unfold gu at p;split at p
    ·rename_i Y L;cases C:cC y.P Y with
     | none=>rw[C]at p;cases p
     | some u =>
      rw[C]at p;injection p with p;injection p with he Q;subst he;subst Q
      cases f:y.P.info? Y with
      | none=>simp[cC,f]at C
      | some V =>
       have I:V.size=u:=by simpa[cC,f]using C
       split at h
       ·rename_i l;split at h
        ·rename_i el t;split at h
         ·rename_i F;injection h with h;subst h
          cases O with
          | sl0 A c=>simp at t
          | sl _ _ b o c D W U hb H E hc hr _ =>
           have G:i.toNat<l.length:=(jf.1 t).1;have d:i<(l.length:Int):=by omega
           have K:D=u:=by rw[←F];exact(U el (mm t)).symm
           subst K;refine⟨.pointer (some ⟨b,o+i.toNat*D,none⟩),?_,.cptr _ _ b _ (W i.toNat) hb H (E _) (hc _ _ t) (hr _ _ t)⟩;simp[Instr.indexAt,asIntOf,pt L,N,d,sizeOf,typeInfo,f,I,aix]
         ·cases h
        ·cases h
       ·rename_i id;split at h
        ·rename_i ar P;split at h
         ·rename_i q;injection h with h;subst h
          cases O with
          | ref _ _ A n c M =>
           obtain⟨v,xs,E,h2,h3,h4,h5⟩:=J.hs.arrs id ar P (by rw[M];rfl);rw[M]at E;injection E with E;subst E
           obtain⟨hv,h0⟩|⟨Z,b0,c0,hv,hb,hg,e0,a0,R,S⟩:=h2.2
           ·omega
           ·injection hv with hA H d0
            subst hA;subst H;have d:i<(ar.l.length:Int):=by omega
            refine⟨.pointer (some ⟨Z,i.toNat*u+0,none⟩),?_,.eptr _ _ _ _ _ Z _ c M⟩;simp[Instr.indexAt,asIntOf,pt L,N,d,sizeOf,typeInfo,f,I,aix]
         ·cases h
        ·cases h
       ·rename_i id D off m;split at h
        ·rename_i q;obtain⟨rfl,G⟩:=q;injection h with h;subst h
         cases O with
         | sref _ _ _ _ _ n c c' A B M hB =>
          rcases hB with hB|⟨g,rfl,rfl,_⟩
          ·omega
          ·have d:i<(m:Int):=by omega
           refine⟨.pointer (some ⟨g,(off+i.toNat)*D+0,none⟩),?_,.eptr _ _ _ _ _ g n c M⟩;rw[akF,akt];simp[Instr.indexAt,asIntOf,pt L,N,d,sizeOf,typeInfo,f,I,aix]
        ·cases h
       ·cases h
    grind
   grind
 grind
def ke:AV→Option c6
 | .agg cs=>some cs
 | .tup _=>none
 | v=>some [v]
theorem As{N:Nat→Prop}{w:World}{ι:Env}{v:AV}{x:Value}{cs:c6}(h:ke v=some cs)(g:Rel N w ι v x):Cells N w ι cs x.cells.toList:=by
 have key:∀(y:Value),Rel N w ι v y→v.Dx=true→y.cells = #[y]→Cells N w ι [v] y.cells.toList:=fun y j m k=>by
  rw[k];exact⟨rfl,fun u d=>by simp at d;subst d;exact j.one m,fun i c u b d=>by
   cases i with
   | zero=>simp at b d;subst b;subst d;exact j
   | succ i=>simp at b⟩
 unfold ke at h;split at h
 ·injection h with h;subst h
  cases g with
  | agg _ _ vs l f n=>exact⟨by simpa[Value.cells]using l,by simpa[Value.cells]using f,by simpa[Value.cells]using n⟩
 ·cases h
 ·rename_i f o;injection h with h;subst h
  cases g<;>first
   | exact key _ (by constructor<;>assumption) rfl rfl
   | (rename_i a;exact key _ (.any _ _ a) rfl (by cases x<;>first|rfl|cases a))
   | (rename_i a;exact key _ (.vv _ _ a) rfl (by cases x<;>first|rfl|cases a))
   | (rename_i e a;exact key _ (.lk _ _ _ _ e a) rfl (by cases x<;>first|rfl|cases a))
   | grind
   | grind
def ja(off:Nat)(a cs:c6):c6:=cs.take off++a++cs.drop (off+a.length)
theorem kX{α:Type} off(a cs:List α)(h:off+a.length≤cs.length) i:(cs.take off++a++cs.drop (off+a.length))[i]?=if i<off then cs[i]? else if i<off+a.length then a[i-off]? else cs[i]?:=by
 have b:(cs.take off).length=off:=by grind
 grind
theorem oP{α:Type} off(a cs:List α)(h:off+a.length≤cs.length):(cs.take off++a++cs.drop (off+a.length)).length=cs.length:=by
 grind
theorem Cells.ja{N:Nat→Prop}{w:World}{ι:Env}{cs e:c6}{vs c:ee}(h:Cells N w ι cs vs)(f:Cells N w ι e c){off:Nat}(k:off+e.length≤cs.length):
  Cells N w ι (ja off e cs) (vs.take off++c++vs.drop (off+c.length)):=by
 have d:off+c.length≤vs.length:=by rw[←f.len,← h.len];exact k
 refine⟨?_,fun v a=>?_,fun i x v b a=>?_⟩
 ·unfold Proofs.YtocgkfoifehcbaaGreat.ja;rw[oP off e cs k,oP off c vs d,h.len]
 ·rcases n5.1 a with a|a
  ·rcases n5.1 a with a|a
   ·exact h.one v (wl a)
   ·exact f.one v a
  ·exact h.one v (IN a)
 ·unfold Proofs.YtocgkfoifehcbaaGreat.ja at b;rw[kX off e cs k]at b;rw[kX off c vs d]at a;rw[f.len]at b;split at b
  ·rename_i g;rw[lc g]at a;exact h.rel i x v b a
  ·rename_i g;rw[kb g]at a;split at b
   ·rename_i j;rw[lc j]at a;exact f.rel _ x v b a
   ·rename_i j;rw[kb j]at a;exact h.rel i x v b a
def rp(P:Program)(s:AS)(T:TypeId)(p v:AV):Option AS :=
 match p with
 | .ptr id off=>match look id s.o,ke v with
  | some cs,some b=>if cC P T=some b.length∧off+b.length≤cs.length then some { s with o:=bm id (ja off b cs) s.o } else none
  | _,_=>none
 | .eptr id sz j off=>match look id s.r,ke v with
  | some a,some b=>match a.l[j]? with
   | some e=>if a.sz=sz∧cC P T=some b.length∧off+b.length≤e.length∧dW [] b=true then some { s with r:=bm id { a with l:=a.l.set j (ja off b e) } s.r } else none
   | none=>none
  | _,_=>none
 | _=>none
theorem Oq{P:Program}{w:World}{g off:Nat}{T T':TypeId}{a:Array Value}{x:Value}(d:w.heap[g]?=some (.cells a T' (0,0)))(j:cC P T=some x.cells.toList.length)(h:off+x.cells.toList.length≤a.size)(c:∀v∈x.cells.toList,v.oneCell'=true):
  (Instr.storeAt T (.pointer (some ⟨g,off,none⟩)) x).run P w=.ok () (w.setRow g (a.toList.take off++x.cells.toList++a.toList.drop (off+x.cells.toList.length)).toArray):=by
 have b:=run_storeCells_at P g off T' x.cells.toList 0 a w d (by grind) c;cases e:P.info? T with
 | none=>grind[cC]
 | some i =>
  have f:i.size=x.cells.size:=by grind[cC]
  simp only[akF]at b;simp[Instr.storeAt,Instr.sureAddr,storeVar,sizeOf,typeInfo,e,f,b]
theorem Cells.Qv{N}{w}{ι}{cs}{vs}(h:Cells N w ι cs vs)(b:dW [] cs=true) ι':Cells N w ι' cs vs :=
 ⟨h.len,h.one,fun i x v a c=>(h.rel i x v a c).pure (lH b i x a) ι'⟩
theorem HS.afi{M:Nat→Prop}{w0:aA}{w:World}{ι:Env}{s:AS}(h:HS M w0 w ι s){id g n c:Nat}{ar:co}{j off:Nat}{e nv:c6}{u:ee}
  (e0:look id s.r=some ar) (D:ι id=some (.slice (some ⟨g,0,none⟩) n c)) (he:ar.l[j]?=some e) (hl:off+nv.length≤e.length) (F:Cells (NN M ι) w bG nv u) :
  ∃d T,w.heap[g]?=some (.cells d T (0,0))∧j*ar.sz+off+u.length≤d.size ∧
   HS M w0 (w.setRow g (d.toList.take (j*ar.sz+off)++u++d.toList.drop (j*ar.sz+off+u.length)).toArray) ι { s with r:=bm id { ar with l:=ar.l.set j (ja off nv e) } s.r }:=by
 obtain⟨v,xs,J,h2,h3,h4,h5⟩:=h.arrs id ar e0 (by rw[D];rfl);rw[D]at J;injection J with J;subst J
 have E:bz (ι id)=some g:=by rw[D];rfl
 obtain⟨hv,_⟩|⟨R,o0,d,hv,o,hg,Z,V,B,O⟩:=h2.2
 ·cases hv
 injection hv with U hn f0
 injection U with U;injection U with U;subst U;subst f0
 have X:j<ar.l.length:=(jf.1 he).1;have g0:e.length=ar.sz:=h3 e (mm he);have b0:xs.length=ar.l.length*ar.sz:=h2.1;have m0:(j+1)*ar.sz≤ar.l.length*ar.sz:=abM _ X;have i0:ar.l.length*ar.sz≤c*ar.sz:=abM _ Z;have q0:(j+1)*ar.sz=j*ar.sz+ar.sz:=by rw[akt,akU]
 have z:j*ar.sz+off+u.length≤d.size:=by rw[←F.len,B];omega
 have p:j*ar.sz+off+u.length≤xs.length:=by rw[←F.len,b0];omega
 refine⟨d,ar.e,hg,z,?_⟩;generalize hC:(d.toList.take (j*ar.sz+off)++u++d.toList.drop (j*ar.sz+off+u.length)).toArray=C;have P:∀b,b<w.heap.size→¬ NN M ι b→(w.setRow g C).heap[b]?=w.heap[b]?:=fun b _ o=>eP (fun e=>o (.inr ⟨id,by rw[e];exact E⟩));obtain⟨ho,s0⟩:=h.own id g E;refine⟨?_,h.old,h.use,fun i k t=>?_,h.inj,h.ko,fun i a y=>?_,fun i cs y hp=>?_,fun i a y hp=>?_,h.pin⟩
 ·exact h.below.trans ⟨rfl,rfl,rfl,by simp,fun k t hG=>eP (fun e=>by subst e;rcases ho with ho|ho;exact Nat.lt_irrefl _ (u7 t ho);exact hG ho)⟩
 ·have:=h.own i k t;simp;exact this
 ·simp only[cv]at y;by_cases Q:i=id
  ·subst Q;exact h.use i _ D
  ·rw[kb Q]at y;exact h.kr i a y
 ·obtain⟨R,T',l0,J,K,L⟩:=h.objs i cs y hp;have k0:R≠g:=fun I=>by
   have:=h.inj i id g (by rw[J,I];rfl) E;subst this;rw[J]at D;cases D
  exact⟨R,T',l0,J,(eP k0).trans K,L.mono (by simp) (fun b _ o=>o) P (fun _ _ h=>h)⟩
 ·simp only[cv]at y;by_cases Q:i=id
  ·subst Q;rw[lc rfl]at y;injection y with y;subst y
   refine⟨_,xs.take (j*ar.sz+off)++u++xs.drop (j*ar.sz+off+u.length),D,⟨?_,.inr ⟨g,c,C,?_,o,amt w g d _ _ _ hg,?_,V,?_,?_⟩⟩,?_,?_,?_⟩
   ·rw[oP _ _ _ p];simpa using b0
   ·simp[hn]
   ·simpa using Z
   ·rw[←B,← hC];have A:=z;rw[←If]at A;rw[alO,oP _ _ _ A,If]
   ·rw[←hC];apply akK;intro i;simp only[In,akz];rw[kX _ _ _ (by simpa using z),kX _ _ _ p];have ht:∀i,xs[i]?=if i<ar.l.length*ar.sz then d.toList[i]? else none:=fun i=>by rw[←O,In]
    simp only[ht];have p0:=F.len;by_cases g1:i<ar.l.length*ar.sz
    ·simp only[lc g1]
    ·simp only[kb g1];have g2:¬ i<j*ar.sz+off:=by omega
     have g3:¬ i<j*ar.sz+off+u.length:=by omega
     simp only[kb g2,kb g3]
   ·intro I G;simp only[]at G⊢;rcases alM G with G|rfl
    ·exact h3 I G
    ·unfold ja;rw[oP _ _ _ hl];exact g0
   ·intro x m;rcases n5.1 m with m|m
    ·rcases n5.1 m with m|m
     ·exact h4 x (wl m)
     ·exact F.one x m
    ·exact h4 x (IN m)
   ·intro j' I f k c' t;simp only[]at f⊢;rw[kX _ _ _ p];rw[aky]at f;by_cases ej:j=j'
    ·subst ej;rw[lc rfl,lc X]at f;injection f with f;subst f
     unfold ja at t;have Y:k<e.length:=by have:=(jf.1 t).1;rwa[oP _ _ _ hl]at this
     rw[kX _ _ _ hl]at t;split at t
     ·rename_i g1;obtain⟨x,m,N⟩:=h5 j e he k c' t;rw[lc (by omega)];exact⟨x,m,N.mono (by simp) (fun b _ o=>o) P (fun _ h=>h) (fun r q=>eP (fun e=>h.nV q D (fun _ e=>by cases e) (by rw[e];rfl))) (fun h=>h)⟩
     ·rename_i g1;split at t
      ·rename_i g2;have H:k-off<u.length:=by rw[←F.len];omega
       rw[kb (by omega),lc (by rw[←F.len];omega)];have e2:j*ar.sz+k-(j*ar.sz+off)=k-off:=by omega
       rw[e2];exact⟨u[k-off],jt H,.inl ((F.rel _ _ _ t (jt H)).mono (by simp) (fun b _ o=>o) P (fun _ _ h=>h))⟩
      ·rename_i g2;obtain⟨x,m,N⟩:=h5 j e he k c' t;rw[kb (by omega),kb (by rw[←F.len];omega)];exact⟨x,m,N.mono (by simp) (fun b _ o=>o) P (fun _ h=>h) (fun r q=>eP (fun e=>h.nV q D (fun _ e=>by cases e) (by rw[e];rfl))) (fun h=>h)⟩
    ·rw[kb ej]at f;obtain⟨x,m,N⟩:=h5 j' I f k c' t;have Y:k<ar.sz:=by have:=(jf.1 t).1;rwa[h3 I (mm f)]at this
     have r0:off+u.length≤ar.sz:=by rw[←F.len];omega
     refine⟨x,?_,N.mono (by simp) (fun b _ o=>o) P (fun _ h=>h) (fun r q=>eP (fun e=>h.nV q D (fun _ e=>by cases e) (by rw[e];rfl))) (fun h=>h)⟩;rcases Nat.lt_or_gt_of_ne ej with a0|W
     ·have:(j+1)*ar.sz≤j'*ar.sz:=abM _ a0;rw[kb (by omega),kb (by omega)];exact m
     ·have:(j'+1)*ar.sz≤j*ar.sz:=abM _ W;rw[akt,akU]at this;rw[lc (by omega)];exact m
  ·rw[kb Q]at y;obtain⟨v',xs',S,K,L,c0,d0⟩:=h.arrs i a y hp;refine⟨v',xs',S,fR K (fun R h0=>eP ?_),L,c0,fun j el hj k c H=>?_⟩
   ·intro I;subst I;exact Q (h.inj i id R (by rw[S];exact h0) E)
   ·obtain⟨x,m,N⟩:=d0 j el hj k c H;exact⟨x,m,N.mono (by simp) (fun b _ o=>o) P (fun _ h=>h) (fun r q=>eP (fun e=>h.nV q D (fun _ e=>by cases e) (by rw[e];rfl))) (fun h=>h)⟩
theorem X4{r:Cx}{s s':AS}{a:Act}{w:World}{ι:Env}(f:aU r s a w ι){T:TypeId}{p v:AV}(h:rp r.P s T p v=some s'){X Y:Value}(B:Rel (NN r.M ι) w ι p X)(C:Rel (NN r.M ι) w ι v Y):
  ∃w',(Instr.storeAt T X Y).run r.P w=.ok () w'∧aU r s' a w' ι:=by
 unfold rp at h;split at h
 ·rename_i id off;split at h
  ·rename_i cs J x o;split at h
   ·rename_i d;injection h with h;subst h
    cases B with
    | ptr _ _ _ g q =>
     obtain⟨K,T',vs,i,z,A⟩:=f.hs.objs id cs x (by rw[q];rfl);rw[q]at i;injection i with i;injection i with i;injection i with i;injection i with i;subst i
     have k:=As o C;have m:bz (ι id)=some g:=by rw[q];rfl
     refine⟨_,Oq z (by rw[←k.len];exact d.1) (by have:=A.len;have:=d.2;rw[←k.len];simp at *;omega) k.one,?_⟩;refine f.world (f.hs.setObj q z (A.ja k d.2)) rfl (by simp) (fun b _ l=>l) (fun b _ l=>eP (fun e=>l (.inr ⟨id,by rw[e];exact m⟩))) (fun _ _ h=>h)
   ·cases h
  ·cases h
 ·rename_i id sz j off;split at h
  ·rename_i ar J u o;split at h
   ·rename_i e H;split at h
    ·rename_i d;obtain⟨c1,D,E,F⟩:=d;subst c1;injection h with h;subst h
     cases B with
     | eptr _ _ _ _ _ g n c q =>
      have k:=As o C;obtain⟨G,T',I,t,y⟩:=f.hs.afi u q H E (k.Qv F bG);have m:bz (ι id)=some g:=by rw[q];rfl
      refine⟨_,Oq I (by rw[←k.len];exact D) t k.one,?_⟩;refine f.world y rfl (by simp) (fun b _ l=>l) (fun b _ l=>eP (fun e=>l (.inr ⟨id,by rw[e];exact m⟩))) (fun _ _ h=>h)
    grind
   grind
  grind
 grind
end Go.Proofs.YtocgkfoifehcbaaGreat

/- The operations on abstract values, second part: addresses, stores, new variables, literals, len, max, min. No program in sight. -/
import Derived.Test.YtocgkfoifehcbaaGreatRdAop
namespace Go.Proofs.YtocgkfoifehcbaaGreat
set_option linter.all false
open Go.RowKit
def n5:=@List.mem_append
def u6:=@List.mem_of_mem_take
def If:=@Array.length_toList
def IN:=@Nat.mul_le_mul_right
def OR:=@List.mem_of_mem_drop
def ajK:=@Nat.add_mul
def akR:=@Addr.add_mid
def akT:=@List.length_set
def ak8:=@List.getElem?_set
def ak9:=@Nat.one_mul
def alj:=@List.ext_getElem?
def amf:=@List.mem_or_eq_of_mem_set
def amh:=@List.size_toArray
def yJ(k:Nat):AV→Option AV
 | .ptr id off=>some (.ptr id (off+k))
 | .cptr cs=>some (.cptr (cs.drop k))
 | .eptr id sz j off=>some (.eptr id sz j (off+k))
 | .adr g off=>some (.adr g (off+k))
 | .pp _ g off=>some (.adr g (off+k))
 | _=>none
theorem Us{N:Nat→Prop}{w:World}{ι:Env}{k:Nat}{p q:AV}{x:Value}(h:yJ k p=some q)(a:Rel N w ι p x):
  ∃b o,x=.pointer (some ⟨b,o,none⟩)∧Rel N w ι q (.pointer (some ⟨b,o+k,none⟩)):=by
 unfold yJ at h;split at h<;>first|(cases h;done)|skip
 ·injection h with h;subst h
  cases a with
  | ptr _ _ _ g e=>exact⟨g,_,rfl,.ptr _ _ _ g e⟩
 ·injection h with h;subst h
  cases a with
  | cptr _ cs b o f l r j m s =>
   refine⟨b,o,rfl,.cptr _ _ b (o+k) (fun i=>f (k+i)) l r (fun i=>j _) (fun i x d=>?_) (fun i x d=>?_)⟩
   ·rw[ahn]at d;have:=m _ x d;rwa[←alD]at this
   ·rw[ahn]at d;exact s _ x d
 ·injection h with h;subst h
  cases a with
  | eptr _ _ _ _ _ g n c e =>
   refine⟨g,_,rfl,?_⟩;rw[alD];exact .eptr _ _ _ _ _ g n c e
 ·injection h with h;subst h
  cases a with
  | adr _ _ _=>exact⟨_,_,rfl,.adr _ _ _⟩
 ·injection h with h;subst h
  cases a with
  | pp _ _ _ _ _=>exact⟨_,_,rfl,.adr _ _ _⟩
theorem abf{P:Program}{w:World}{N:Nat→Prop}{ι:Env}{T:TypeId}{f k:Nat}{p q:AV}{x:Value}(a:HL P T f=some k)(h:yJ k p=some q)(j:Rel N w ι p x):
  ∃z,(Instr.fieldAt T x f).run P w=.ok z w∧Rel N w ι q z:=by
 obtain⟨b,o,rfl,l⟩:=Us h j;unfold HL at a;split at a
 ·rename_i s r;split at a
  ·rename_i g d;split at a
   ·rename_i m c;injection a with a;subst a
    refine⟨_,?_,l⟩;cases hi:P.info? g.type with
    | none=>simp[cr,hi]at c
    | some i =>
     have n:i.size=m+1:=by simpa[cr,hi]using c
     have e:¬ i.size=0:=by omega
     simp[Instr.fieldAt,ob r,d,Instr.sureAddr,fieldPlace,sizeOf,typeInfo,hi,n,akR]
   grind
  grind
 grind
def yj(P:Program)(s:AS)(T:TypeId)(x:AV)(i:Int):Option AV :=
 if 0≤i then
  match ph P T with
  | some (n,k)=>if i.toNat<n then yJ (i.toNat*k) x else none
  | none=>match gA P T with
   | some (_,k)=>match x with
    | .sl l=>match l[i.toNat]? with
     | some e=>if e.length=k then some (.cptr e) else none
     | none=>none
    | .ref id=>match look id s.r with
     | some a=>if a.sz=k∧i.toNat<a.l.length then some (.eptr id k i.toNat 0) else none
     | none=>none
    | .sref id sz off m=>if sz=k∧i.toNat<m then some (.eptr id k (off+i.toNat) 0) else none
    | _=>none
   | none=>none
 else none
theorem ae8{y:Cx}{s:AS}{a:Act}{w:World}{ι:Env}(J:aV y s a w ι){T:TypeId}{x r:AV}{k:IntKind}{i:Int}(h:yj y.P s T x i=some r){X:Value}(N:Rel (NN y.M ι) w ι x X):
  ∃z,(Instr.indexAt T X (.int k i)).run y.P w=.ok z w∧Rel (NN y.M ι) w ι r z:=by
 unfold yj at h;split at h
 ·rename_i hi;split at h
  ·rename_i n sz j;split at h
   ·rename_i G;obtain⟨b,o,rfl,hq⟩:=Us h N;refine⟨_,?_,hq⟩;unfold ph at j;split at j
    ·rename_i n' e L;cases C:cr y.P e with
     | none=>rw[C]at j;cases j
     | some u =>
      rw[C]at j;injection j with j;injection j with H P;subst H;subst P
      cases f:y.P.info? e with
      | none=>simp[cr,f]at C
      | some U =>
       have I:U.size=u:=by simpa[cr,f]using C
       have d:i<(n':Int):=by omega
       simp[Instr.indexAt,asIntOf,ob L,Instr.sureAddr,hi,d,sizeOf,typeInfo,f,I,akR]
    ·cases j
   ·cases h
  ·split at h
   ·rename_i e sz p;unfold gA at p;split at p
    ·rename_i W L;cases C:cr y.P W with
     | none=>rw[C]at p;cases p
     | some u =>
      rw[C]at p;injection p with p;injection p with he P;subst he;subst P
      cases f:y.P.info? W with
      | none=>simp[cr,f]at C
      | some U =>
       have I:U.size=u:=by simpa[cr,f]using C
       split at h
       ·rename_i l;split at h
        ·rename_i el t;split at h
         ·rename_i F;injection h with h;subst h
          cases N with
          | sl0 A c=>simp at t
          | sl _ _ b o c D V S hb H E hc hr _ =>
           have G:i.toNat<l.length:=(jt.1 t).1;have d:i<(l.length:Int):=by omega
           have K:D=u:=by rw[←F];exact(S el (mm t)).symm
           subst K;refine⟨.pointer (some ⟨b,o+i.toNat*D,none⟩),?_,.cptr _ _ b _ (V i.toNat) hb H (E _) (hc _ _ t) (hr _ _ t)⟩;simp[Instr.indexAt,asIntOf,ob L,hi,d,sizeOf,typeInfo,f,I,akR]
         ·cases h
        ·cases h
       ·rename_i id;split at h
        ·rename_i ar O;split at h
         ·rename_i q;injection h with h;subst h
          cases N with
          | ref _ _ A n c M =>
           obtain⟨v,xs,E,h2,h3,h4,h5⟩:=J.hs.arrs id ar O (by rw[M];rfl);rw[M]at E;injection E with E;subst E
           obtain⟨hv,h0⟩|⟨Y,b0,c0,hv,hb,hg,e0,a0,Q,R⟩:=h2.2
           ·omega
           ·injection hv with hA H d0
            subst hA;subst H;have d:i<(ar.l.length:Int):=by omega
            refine⟨.pointer (some ⟨Y,i.toNat*u+0,none⟩),?_,.eptr _ _ _ _ _ Y _ c M⟩;simp[Instr.indexAt,asIntOf,ob L,hi,d,sizeOf,typeInfo,f,I,akR]
         ·cases h
        ·cases h
       ·rename_i id D off m;split at h
        ·rename_i q;obtain⟨rfl,G⟩:=q;injection h with h;subst h
         cases N with
         | sref _ _ _ _ _ n c c' A B M Z =>
          rcases Z with Z|⟨g,rfl,rfl,_⟩
          ·omega
          ·have d:i<(m:Int):=by omega
           refine⟨.pointer (some ⟨g,(off+i.toNat)*D+0,none⟩),?_,.eptr _ _ _ _ _ g n c M⟩;rw[ak5,ajK];simp[Instr.indexAt,asIntOf,ob L,hi,d,sizeOf,typeInfo,f,I,akR]
        ·cases h
       ·cases h
    grind
   grind
 grind
def jR:AV→Option c6
 | .agg cs=>some cs
 | .tup _=>none
 | v=>some [v]
theorem AJ{N:Nat→Prop}{w:World}{ι:Env}{v:AV}{x:Value}{cs:c6}(h:jR v=some cs)(g:Rel N w ι v x):Cells N w ι cs x.cells.toList:=by
 have key:∀(y:Value),Rel N w ι v y→v.DC=true→y.cells = #[y]→Cells N w ι [v] y.cells.toList:=fun y j m k=>by
  rw[k];exact⟨rfl,fun u d=>by simp at d;subst d;exact j.one m,fun i c u b d=>by
   cases i with
   | zero=>simp at b d;subst b;subst d;exact j
   | succ i=>simp at b⟩
 unfold jR at h;split at h
 ·injection h with h;subst h
  cases g with
  | agg _ _ vs l f n=>exact⟨by simpa[Value.cells]using l,by simpa[Value.cells]using f,by simpa[Value.cells]using n⟩
 ·cases h
 ·rename_i f o;injection h with h;subst h
  cases g<;>first
   | exact key _ (by constructor<;>assumption) rfl rfl
   | (rename_i a;exact key _ (.any _ _ a) rfl (by cases x<;>first|rfl|cases a))
   | (rename_i a;exact key _ (.vv _ _ a) rfl (by cases x<;>first|rfl|cases a))
   | (rename_i e a;exact key _ (.lk _ _ _ _ e a) rfl (by cases x<;>first|rfl|cases a))
   | grind
   | grind
def jn(off:Nat)(a cs:c6):c6:=cs.take off++a++cs.drop (off+a.length)
theorem kQ{α:Type} off(a cs:List α)(h:off+a.length≤cs.length) i:(cs.take off++a++cs.drop (off+a.length))[i]?=if i<off then cs[i]? else if i<off+a.length then a[i-off]? else cs[i]?:=by
 have b:(cs.take off).length=off:=by grind
 grind
theorem o9{α:Type} off(a cs:List α)(h:off+a.length≤cs.length):(cs.take off++a++cs.drop (off+a.length)).length=cs.length:=by
 grind
theorem Cells.jn{N:Nat→Prop}{w:World}{ι:Env}{cs e:c6}{vs c:eg}(h:Cells N w ι cs vs)(f:Cells N w ι e c){off:Nat}(k:off+e.length≤cs.length):
  Cells N w ι (jn off e cs) (vs.take off++c++vs.drop (off+c.length)):=by
 have d:off+c.length≤vs.length:=by rw[←f.len,← h.len];exact k
 refine⟨?_,fun v a=>?_,fun i x v b a=>?_⟩
 ·unfold Proofs.YtocgkfoifehcbaaGreat.jn;rw[o9 off e cs k,o9 off c vs d,h.len]
 ·rcases n5.1 a with a|a
  ·rcases n5.1 a with a|a
   ·exact h.one v (u6 a)
   ·exact f.one v a
  ·exact h.one v (OR a)
 ·unfold Proofs.YtocgkfoifehcbaaGreat.jn at b;rw[kQ off e cs k]at b;rw[kQ off c vs d]at a;rw[f.len]at b;split at b
  ·rename_i g;rw[lp g]at a;exact h.rel i x v b a
  ·rename_i g;rw[kc g]at a;split at b
   ·rename_i j;rw[lp j]at a;exact f.rel _ x v b a
   ·rename_i j;rw[kc j]at a;exact h.rel i x v b a
def rQ(P:Program)(s:AS)(T:TypeId)(p v:AV):Option AS :=
 match p with
 | .ptr id off=>match look id s.o,jR v with
  | some cs,some b=>if cr P T=some b.length∧off+b.length≤cs.length then some { s with o:=bd id (jn off b cs) s.o } else none
  | _,_=>none
 | .eptr id sz j off=>match look id s.r,jR v with
  | some a,some b=>match a.l[j]? with
   | some e=>if a.sz=sz∧cr P T=some b.length∧off+b.length≤e.length∧dV [] b=true then some { s with r:=bd id { a with l:=a.l.set j (jn off b e) } s.r } else none
   | none=>none
  | _,_=>none
 | _=>none
theorem Q9{P:Program}{w:World}{g off:Nat}{T T':TypeId}{a:Array Value}{x:Value}(d:w.heap[g]?=some (.cells a T' (0,0)))(h:cr P T=some x.cells.toList.length)(f:off+x.cells.toList.length≤a.size)(c:∀v∈x.cells.toList,v.oneCell'=true):
  (Instr.storeAt T (.pointer (some ⟨g,off,none⟩)) x).run P w=.ok () (w.setRow g (a.toList.take off++x.cells.toList++a.toList.drop (off+x.cells.toList.length)).toArray):=by
 have b:=run_storeCells_at P g off T' x.cells.toList 0 a w d (by grind) c;cases hi:P.info? T with
 | none=>grind[cr]
 | some i =>
  have e:i.size=x.cells.size:=by grind[cr]
  simp only[ak5]at b;simp[Instr.storeAt,Instr.sureAddr,storeVar,sizeOf,typeInfo,hi,e,b]
theorem Cells.Sg{N}{w}{ι}{cs}{vs}(h:Cells N w ι cs vs)(b:dV [] cs=true) ι':Cells N w ι' cs vs :=
 ⟨h.len,h.one,fun i x v a c=>(h.rel i x v a c).pure (lY b i x a) ι'⟩
theorem HS.Xp{M:Nat→Prop}{w0:aB}{w:World}{ι:Env}{s:AS}(h:HS M w0 w ι s){id g n c:Nat}{ar:cj}{j off:Nat}{e nv:c6}{u:eg}
  (d0:look id s.r=some ar) (B:ι id=some (.slice (some ⟨g,0,none⟩) n c)) (he:ar.l[j]?=some e) (hl:off+nv.length≤e.length) (E:Cells (NN M ι) w bH nv u) :
  ∃d T,w.heap[g]?=some (.cells d T (0,0))∧j*ar.sz+off+u.length≤d.size ∧
   HS M w0 (w.setRow g (d.toList.take (j*ar.sz+off)++u++d.toList.drop (j*ar.sz+off+u.length)).toArray) ι { s with r:=bd id { ar with l:=ar.l.set j (jn off nv e) } s.r }:=by
 obtain⟨v,xs,I,h2,h3,h4,h5⟩:=h.arrs id ar d0 (by rw[B];rfl);rw[B]at I;injection I with I;subst I
 have D:bu (ι id)=some g:=by rw[B];rfl
 obtain⟨hv,_⟩|⟨Q,m0,d,hv,o,hg,Y,U,A,N⟩:=h2.2
 ·cases hv
 injection hv with S hn e0
 injection S with S;injection S with S;subst S;subst e0
 have W:j<ar.l.length:=(jt.1 he).1;have f0:e.length=ar.sz:=h3 e (mm he);have a0:xs.length=ar.l.length*ar.sz:=h2.1;have l0:(j+1)*ar.sz≤ar.l.length*ar.sz:=IN _ W;have h0:ar.l.length*ar.sz≤c*ar.sz:=IN _ Y;have p0:(j+1)*ar.sz=j*ar.sz+ar.sz:=by rw[ajK,ak9]
 have y:j*ar.sz+off+u.length≤d.size:=by rw[←E.len,A];omega
 have p:j*ar.sz+off+u.length≤xs.length:=by rw[←E.len,a0];omega
 refine⟨d,ar.e,hg,y,?_⟩;generalize hC:(d.toList.take (j*ar.sz+off)++u++d.toList.drop (j*ar.sz+off+u.length)).toArray=C;have O:∀b,b<w.heap.size→¬ NN M ι b→(w.setRow g C).heap[b]?=w.heap[b]?:=fun b _ o=>eG (fun e=>o (.inr ⟨id,by rw[e];exact D⟩));obtain⟨ho,r0⟩:=h.own id g D;refine⟨?_,h.old,h.use,fun i k t=>?_,h.inj,h.ko,fun i a hi=>?_,fun i cs hi hp=>?_,fun i a hi hp=>?_,h.pin⟩
 ·exact h.below.trans ⟨rfl,rfl,rfl,by simp,fun k t hG=>eG (fun e=>by subst e;rcases ho with ho|ho;exact Nat.lt_irrefl _ (wl t ho);exact hG ho)⟩
 ·have:=h.own i k t;simp;exact this
 ·simp only[cn]at hi;by_cases P:i=id
  ·subst P;exact h.use i _ B
  ·rw[kc P]at hi;exact h.kr i a hi
 ·obtain⟨Q,T',k0,I,J,K⟩:=h.objs i cs hi hp;have i0:Q≠g:=fun H=>by
   have:=h.inj i id g (by rw[I,H];rfl) D;subst this;rw[I]at B;cases B
  exact⟨Q,T',k0,I,(eG i0).trans J,K.mono (by simp) (fun b _ o=>o) O (fun _ _ h=>h)⟩
 ·simp only[cn]at hi;by_cases P:i=id
  ·subst P;rw[lp rfl]at hi;injection hi with hi;subst hi
   refine⟨_,xs.take (j*ar.sz+off)++u++xs.drop (j*ar.sz+off+u.length),B,⟨?_,.inr ⟨g,c,C,?_,o,am2 w g d _ _ _ hg,?_,U,?_,?_⟩⟩,?_,?_,?_⟩
   ·rw[o9 _ _ _ p];simpa using a0
   ·simp[hn]
   ·simpa using Y
   ·rw[←A,← hC];have z:=y;rw[←If]at z;rw[amh,o9 _ _ _ z,If]
   ·rw[←hC];apply alj;intro i;simp only[By,akT];rw[kQ _ _ _ (by simpa using y),kQ _ _ _ p];have ht:∀i,xs[i]?=if i<ar.l.length*ar.sz then d.toList[i]? else none:=fun i=>by rw[←N,By]
    simp only[ht];have o0:=E.len;by_cases g1:i<ar.l.length*ar.sz
    ·simp only[lp g1]
    ·simp only[kc g1];have g2:¬ i<j*ar.sz+off:=by omega
     have g3:¬ i<j*ar.sz+off+u.length:=by omega
     simp only[kc g2,kc g3]
   ·intro H F;simp only[]at F⊢;rcases amf F with F|rfl
    ·exact h3 H F
    ·unfold jn;rw[o9 _ _ _ hl];exact f0
   ·intro x m;rcases n5.1 m with m|m
    ·rcases n5.1 m with m|m
     ·exact h4 x (u6 m)
     ·exact E.one x m
    ·exact h4 x (OR m)
   ·intro j' H f k c' t;simp only[]at f⊢;rw[kQ _ _ _ p];rw[ak8]at f;by_cases ej:j=j'
    ·subst ej;rw[lp rfl,lp W]at f;injection f with f;subst f
     unfold jn at t;have X:k<e.length:=by have:=(jt.1 t).1;rwa[o9 _ _ _ hl]at this
     rw[kQ _ _ _ hl]at t;split at t
     ·rename_i g1;obtain⟨x,m,L⟩:=h5 j e he k c' t;rw[lp (by omega)];exact⟨x,m,L.mono (by simp) (fun b _ o=>o) O (fun _ h=>h) (fun r q=>eG (fun e=>h.nP q B (fun _ e=>by cases e) (by rw[e];rfl))) (fun h=>h)⟩
     ·rename_i g1;split at t
      ·rename_i g2;have G:k-off<u.length:=by rw[←E.len];omega
       rw[kc (by omega),lp (by rw[←E.len];omega)];have e2:j*ar.sz+k-(j*ar.sz+off)=k-off:=by omega
       rw[e2];exact⟨u[k-off],j3 G,.inl ((E.rel _ _ _ t (j3 G)).mono (by simp) (fun b _ o=>o) O (fun _ _ h=>h))⟩
      ·rename_i g2;obtain⟨x,m,L⟩:=h5 j e he k c' t;rw[kc (by omega),kc (by rw[←E.len];omega)];exact⟨x,m,L.mono (by simp) (fun b _ o=>o) O (fun _ h=>h) (fun r q=>eG (fun e=>h.nP q B (fun _ e=>by cases e) (by rw[e];rfl))) (fun h=>h)⟩
    ·rw[kc ej]at f;obtain⟨x,m,L⟩:=h5 j' H f k c' t;have X:k<ar.sz:=by have:=(jt.1 t).1;rwa[h3 H (mm f)]at this
     have q0:off+u.length≤ar.sz:=by rw[←E.len];omega
     refine⟨x,?_,L.mono (by simp) (fun b _ o=>o) O (fun _ h=>h) (fun r q=>eG (fun e=>h.nP q B (fun _ e=>by cases e) (by rw[e];rfl))) (fun h=>h)⟩;rcases Nat.lt_or_gt_of_ne ej with Z|V
     ·have:(j+1)*ar.sz≤j'*ar.sz:=IN _ Z;rw[kc (by omega),kc (by omega)];exact m
     ·have:(j'+1)*ar.sz≤j*ar.sz:=IN _ V;rw[ajK,ak9]at this;rw[lp (by omega)];exact m
  ·rw[kc P]at hi;obtain⟨v',xs',R,J,K,b0,c0⟩:=h.arrs i a hi hp;refine⟨v',xs',R,fK J (fun Q g0=>eG ?_),K,b0,fun j el hj k c G=>?_⟩
   ·intro H;subst H;exact P (h.inj i id Q (by rw[R];exact g0) D)
   ·obtain⟨x,m,L⟩:=c0 j el hj k c G;exact⟨x,m,L.mono (by simp) (fun b _ o=>o) O (fun _ h=>h) (fun r q=>eG (fun e=>h.nP q B (fun _ e=>by cases e) (by rw[e];rfl))) (fun h=>h)⟩
theorem afu{r:Cx}{s s':AS}{a:Act}{w:World}{ι:Env}(f:aV r s a w ι){T:TypeId}{p v:AV}(h:rQ r.P s T p v=some s'){X Y:Value}(B:Rel (NN r.M ι) w ι p X)(C:Rel (NN r.M ι) w ι v Y):
  ∃w',(Instr.storeAt T X Y).run r.P w=.ok () w'∧aV r s' a w' ι:=by
 unfold rQ at h;split at h
 ·rename_i id off;split at h
  ·rename_i cs J x o;split at h
   ·rename_i d;injection h with h;subst h
    cases B with
    | ptr _ _ _ g q =>
     obtain⟨K,T',vs,i,z,A⟩:=f.hs.objs id cs x (by rw[q];rfl);rw[q]at i;injection i with i;injection i with i;injection i with i;injection i with i;subst i
     have k:=AJ o C;have m:bu (ι id)=some g:=by rw[q];rfl
     refine⟨_,Q9 z (by rw[←k.len];exact d.1) (by have:=A.len;have:=d.2;rw[←k.len];simp at *;omega) k.one,?_⟩;refine f.world (f.hs.setObj q z (A.jn k d.2)) rfl (by simp) (fun b _ l=>l) (fun b _ l=>eG (fun e=>l (.inr ⟨id,by rw[e];exact m⟩))) (fun _ _ h=>h)
   ·cases h
  ·cases h
 ·rename_i id sz j off;split at h
  ·rename_i ar J u o;split at h
   ·rename_i e H;split at h
    ·rename_i d;obtain⟨c1,D,E,F⟩:=d;subst c1;injection h with h;subst h
     cases B with
     | eptr _ _ _ _ _ g n c q =>
      have k:=AJ o C;obtain⟨G,T',I,t,y⟩:=f.hs.Xp u q H E (k.Sg F bH);have m:bu (ι id)=some g:=by rw[q];rfl
      refine⟨_,Q9 I (by rw[←k.len];exact D) t k.one,?_⟩;refine f.world y rfl (by simp) (fun b _ l=>l) (fun b _ l=>eG (fun e=>l (.inr ⟨id,by rw[e];exact m⟩))) (fun _ _ h=>h)
    grind
   grind
  grind
 grind
end Go.Proofs.YtocgkfoifehcbaaGreat

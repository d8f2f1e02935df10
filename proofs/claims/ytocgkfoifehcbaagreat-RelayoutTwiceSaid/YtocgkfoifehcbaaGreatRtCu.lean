/- An append of a part of an own slice to its beginning: elements are cut out; an own slice is shortened. No program in sight. -/
import Derived.Test.YtocgkfoifehcbaaGreatRtVy
namespace Go.Proofs.YtocgkfoifehcbaaGreat
set_option linter.all false
open Go.RowKit
def rl:=@List.append_assoc
def aj9:=@List.take_append_drop
theorem HS.Bo{M:Nat→Prop}{w0:aC}{w:World}{ι:Env}{s:AS}(h:HS M w0 w ι s){id g n c k:Nat}{ar:cg}(f0:w0.pv id=none)(m0:id<TG)(Z:look id s.r=some ar)(E:ι id=some (.slice (some ⟨g,0,none⟩) n c))(O:k≤ar.l.length):
  HS M w0 w (rep ι id (.slice (some ⟨g,0,none⟩) k c)) { t:=dA id s.t,o:=eN id s.o,r:=bi id { ar with l:=ar.l.take k } s.r,u:=s.u }∧(∀b,NN M (rep ι id (.slice (some ⟨g,0,none⟩) k c)) b→NN M ι b):=by
 generalize Q:Value.slice (some ⟨g,0,none⟩) k c=v';have a0:br (some v')=br (ι id):=by rw[E,← Q];rfl
 have d:∀i,i≠id→rep ι id v' i=ι i:=fun i f=>sx _ _ f;have B:∀i,br (rep ι id v' i)=br (ι i):=fun i=>by
  by_cases e:i=id
  ·subst e;rw[lw,a0]
  ·rw[d i e]
 have R:∀b,NN M (rep ι id v') b→NN M ι b:=fun b m=>by
  rcases m with m|⟨i,m⟩
  ·exact .inl m
  ·exact .inr ⟨i,by rw[←B];exact m⟩
 have ho:∀k r,ι k=some (.map r)→rep ι id v' k=some (.map r):=fun k r O=>by
  rw[d];exact O;intro e;subst e;rw[E]at O;cases O
 refine⟨⟨h.below,h.old,fun i y U=>?_,fun i J c0=>h.own i J (by rw[←B];exact c0),fun i i' J K h2=>h.inj i i' J (by rw[←B];exact K) (by rw[←B];exact h2),fun i cs f=>?_,fun i a f=>?_,fun i cs f A=>?_,fun i a f A=>?_,fun i y A=>(by
  have e:i≠id:=fun e=>by subst e;rw[f0]at A;cases A
  exact⟨(d i e).trans (h.pin i y A).1,(h.pin i y A).2⟩)⟩,R⟩
 ·by_cases e:i=id
  ·subst e;exact h.use i _ E
  ·rw[d i e]at U;exact h.use i y U
 ·obtain⟨u,K,_⟩:=jF f;exact h.ko i u K
 ·simp only[cq]at f;by_cases e:i=id
  ·subst e;exact h.use i _ E
  ·rw[kc e]at f;exact h.kr i a f
 ·obtain⟨u,K,rfl⟩:=jF f;have e:i≠id:=by
   rintro rfl
   obtain⟨J,T,vs,p,_,_⟩:=h.objs i u K (by rw[E];rfl);rw[E]at p;cases p
  rw[d i e]at A;obtain⟨J,T,vs,p,I,D⟩:=h.objs i u K A;refine⟨J,T,vs,(d i e).trans p,I,by rw[lK];exact D.len,D.one,fun j x v H P=>?_⟩;obtain⟨y,U,rfl⟩:=ln H;exact((D.rel j y v U P).cS d).mono (lc _) (fun b _ m=>R b m) (fun _ _ _=>rfl) (fun _ _ h=>h)
 ·simp only[cq]at f;by_cases e:i=id
  ·subst e;rw[ll rfl]at f;injection f with f;subst f
   obtain⟨v,xs,p,I,D,X,Y⟩:=h.arrs i ar Z (by rw[E];rfl);rw[E]at p;injection p with p;subst p
   obtain⟨P,_⟩|⟨g1,i0,W,P,m,hg,k0,N,F,G⟩:=I.2
   ·cases P
   injection P with L hn b0
   injection L with L;injection L with L;subst L;subst b0
   have h0:k*ar.sz≤ar.l.length*ar.sz:=OR _ O;have o0:=I.1;have C:(ar.l.take k).length=k:=by rw[IN];omega
   refine⟨v',xs.take (k*ar.sz),lw _ _ _,⟨?_,.inr ⟨g,c,W,?_,m,hg,?_,N,F,?_⟩⟩,fun e he=>D e (oR he),fun x H=>X x (oR H),fun j e hj q V S=>?_⟩
   ·simp only[C];rw[IN];omega
   ·simp only[C];rw[←Q]
   ·simp only[C];omega
   ·simp only[C];rw[←G,List.take_take];congr 1;omega
   ·have z:(ar.l.take k)[j]?=some e:=hj;rw[z3]at z;split at z
    ·rename_i d0;obtain⟨x,H,hr⟩:=Y j e z q V S;have l0:q<ar.sz:=by rw[←D e (mm z)];exact(jt.1 S).1
     have e0:j*ar.sz+q<k*ar.sz:=by
      have:(j+1)*ar.sz≤k*ar.sz:=OR _ d0;rw[aiA,akw]at this;omega
     exact⟨x,by rw[z3,ll e0];exact H,.inl ((hr.flat (by omega)).mono (lc _) (fun b _ m=>R b m) (fun _ _ _=>rfl) (fun _ _ h=>h))⟩
    ·cases z
  ·rw[kc e]at f;rw[d i e]at A;obtain⟨v1,g0,p,I,D,X,Y⟩:=h.arrs i a f A;refine⟨v1,g0,(d i e).trans p,I,D,X,fun j el hj q V S=>?_⟩;obtain⟨x,H,hr⟩:=Y j el hj q V S;exact⟨x,H,hr.mono (lc _) (fun b _ m=>R b m) (fun _ _ _=>rfl) (ho _) (fun _ _=>rfl) (fun h=>h)⟩
theorem aV.Bo{d}{s}{a}{w}{ι}(h:aV d s a w ι){id g n c k}{ar}(f:d.w0.pv id=none)(m:id<TG)(e:look id s.r=some ar)(F:ι id=some (.slice (some ⟨g,0,none⟩) n c))(B:k≤ar.l.length):
  aV d { t:=dA id s.t,o:=eN id s.o,r:=bi id { ar with l:=ar.l.take k } s.r,u:=s.u } a w (rep ι id (.slice (some ⟨g,0,none⟩) k c)):=by
 obtain⟨p,q⟩:=h.hs.Bo f m e F B;refine⟨p,h.dfr,h.n,fun j v A=>?_⟩;obtain⟨u,D,rfl⟩:=nL A;obtain⟨x,E,C⟩:=h.tmp j u D;exact⟨x,E,(C.cS (fun i z=>sx _ _ z)).mono (by omega) (fun b _ y=>q b y) (fun _ _ _=>rfl) (fun _ _ h=>h)⟩
theorem US{α:Type}(xs:List α)(a b m:Nat)(c:a≤b)(d:b+m≤xs.length) j:(xs.take a++(xs.drop b).take m++xs.drop (a+m))[j]?=if j<a then xs[j]? else if j<a+m then xs[b+(j-a)]? else xs[j]?:=by
 grind
theorem D8{α:Type}(xs:List α) a b m(c:a≤b)(d:b+m≤xs.length):(xs.take a++(xs.drop b).take m++xs.drop (a+m)).length=xs.length:=by
 grind
section
variable{C:Cx}{Q:Exit→Act→World→Prop}{E:dt}{s:AS}{D:Array Oper}{f:Func}{p:ed}{i:Nat}{α:Type}
theorem Y3{a:Act}{w:World}{ι:Env}(hs:aV C s a w ι){id:Nat}{et:TypeId}{sz m off d bytes:Nat}{l:h7}{T ty:TypeId}{X Y:Value}(i0:id<TG)(f0:C.w0.pv id=none)(hX:Rel (NN C.M ι) w ι (.sref id sz 0 m) X)(hY:Rel (NN C.M ι) w ι (.sref id sz off d) Y)
  (hr:look id s.r=some ⟨et,sz,l⟩) (H:jg C.P T=some (et,sz,bytes)) (h1:1≤m) (h2:m≤off) (h3:off+d≤l.length) :
  ∃x w' ι',(Builtin.append_ #[T,T] ty #[X,Y]).run C.P w=.ok x w'∧Rel (NN C.M ι') w' ι' (.ref id) x ∧
   aV C { t:=dA id s.t,o:=eN id s.o,r:=bi id ⟨et,sz,l.take m++(l.drop off).take d⟩ s.r,u:=s.u } a w' ι':=by
 obtain⟨e,O,z,S,U,v0,w0,f1⟩:∃e O z,C.P.underlying T=some (.slice e)∧C.P.info? e=some O∧e=et∧O.size=sz∧z=():=by
  unfold jg at H;split at H
  ·rename_i e hu;split at H
   ·rename_i O p0;split at H
    ·split at H
     ·injection H with H;injection H with e1 H;injection H with e2 e3
      exact⟨e,O,(),hu,p0,e1,e2,rfl⟩
     ·cases H
    ·cases H
   ·cases H
  ·cases H
 subst v0;subst w0;cases hX with
 | sref _ _ _ _ _ n c c' A B V hB =>
  rcases hB with hB|⟨g,rfl,rfl,e0,K⟩
  ·omega
  rw[akl]at K;subst K;simp only[Nat.zero_mul]at *;obtain⟨v,xs,e1,e2,e3,e4,e5⟩:=hs.hs.arrs id _ hr (by rw[V];rfl);rw[V]at e1;injection e1 with e1;subst e1
  obtain⟨hv,_⟩|⟨g',S0,f,hv,hb,hg,d0,A0,J,y⟩:=e2.2
  ·cases hv
  injection hv with hA hn K
  injection hA with hA;injection hA with hA;subst hA;subst K
  simp only at hn d0 J y e3 e5;have k0:xs.length=l.length*O.size:=e2.1;by_cases s0:d=0
  ·-- nothing is behind
   subst s0;have G:(Builtin.append_ #[T,T] ty #[.slice (some ⟨g,0,none⟩) m c',Y]).run C.P w=.ok (.slice (some ⟨g,0,none⟩) m c') w:=by
    have y0:∀a:Addr,(loadCells a 0).run C.P w=.ok #[] w:=fun a=>by simp[loadCells,loadCellsFrom]
    cases hY with
    | sref _ _ _ _ _ n2 c2 c3 A2 B2 _ _ =>
     cases B2 with
     | none=>simp[Builtin.append_,qk S,sizeOf,typeInfo,U,Builtin.lenOf,Builtin.firstCells,e0,storeCells]
     | some b=>simp[Builtin.append_,qk S,sizeOf,typeInfo,U,Builtin.lenOf,Builtin.firstCells,y0,e0,storeCells]
   have hl:(l.take m++(l.drop off).take 0)=l.take m:=by simp
   rw[hl];refine⟨_,w,_,G,.ref _ _ _ _ _ (lw _ _ _),hs.Bo (k:=m) f0 i0 hr V (by show m≤l.length;omega)⟩
  ·cases hY with
   | sref _ _ _ _ _ n2 c2 c3 A2 B2 L a0 =>
    rw[V]at L;injection L with L;injection L with Z q2 q3;subst Z;subst q2;subst q3
    rcases a0 with a0|⟨g2,Z,rfl,Q0,_⟩
    ·omega
    injection Z with Z;injection Z with Z;subst Z
    generalize hz:O.size=sz at *;have i:∀p q:Nat,p≤q→p*sz≤q*sz:=fun p q h=>OR _ h;have c1:(m+d)*sz=m*sz+d*sz:=aiA _ _ _;have d1:(off+d)*sz=off*sz+d*sz:=aiA _ _ _;have i1:=i m off h2;have i2:=i (off+d) l.length h3;have i3:=i l.length c' d0;have R:((xs.drop (off*sz)).take (d*sz)).length=d*sz:=by rw[IN,ahP];omega
    have x0:∀j,j<l.length*sz→f[j]?=xs[j]?:=fun j E=>by
     rw[←y,z3,ll E,ahk]
    have G:=run_append_room (P:=C.P) w T ty e O S U g m c' f hg ⟨g,off*sz,none⟩ d c3 ((xs.drop (off*sz)).take (d*sz)) (by rw[hz];exact R) (fun j u E=>by
      rw[aiE,akN _ _ _ _ e (0,0) hg];rw[z3]at E;split at E
      ·rename_i b1;rw[af8]at E;rw[x0 _ (by omega)];exact E
      ·cases E) (fun u hu=>e4 u (w3 (oR hu))) (by omega) (by rw[hz,R];omega)
    rw[hz,R]at G;have N:=hs.hs.MM (l':=l.take m++(l.drop off).take d++l.drop (m+d)) (xs':=xs.take (m*sz)++(xs.drop (off*sz)).take (d*sz)++xs.drop (m*sz+d*sz)) hr V hg (D8 l m off d h2 h3) (fun e he=>by
      rcases nw.1 he with he|he
      ·rcases nw.1 he with he|he
       ·exact e3 e (oR he)
       ·exact e3 e (w3 (oR he))
      ·exact e3 e (w3 he)) (by rw[D8 xs _ _ _ i1 (by omega)];exact k0) (fun x D=>by
      rcases nw.1 D with D|D
      ·rcases nw.1 D with D|D
       ·exact e4 x (oR D)
       ·exact e4 x (w3 (oR D))
      ·exact e4 x (w3 D)) (fun j el E q c0 hq=>by
      rw[US l m off d h2 h3]at E;simp only;have I:∀W,l[W]?=some el→∃x,xs[W*sz+q]?=some x∧Rel (NN C.M ι) w bG c0 x:=fun W Q=>by
       obtain⟨x,D,F⟩:=e5 W el Q q c0 hq;exact⟨x,D,F.flat (by omega)⟩
      have g0:∀W,l[W]?=some el→q<sz:=fun W Q=>by rw[←e3 el (mm Q)];exact(jt.1 hq).1
      have l0:∀p r:Nat,p<r→q<sz→p*sz+q<r*sz:=fun p r h hq=>by
       have:=i (p+1) r h;rw[aiA,akw]at this;omega
      rw[US xs (m*sz) (off*sz) (d*sz) i1 (by omega)];split at E
      ·rename_i b0;obtain⟨x,D,F⟩:=I j E;rw[ll (l0 j m b0 (g0 j E))];exact⟨x,D,.inl F⟩
      ·rename_i b0;have T0:=i m j (by omega);split at E
       ·rename_i M;obtain⟨x,D,F⟩:=I _ E;have h9:=l0 j (m+d) M (g0 _ E);rw[kc (by omega),ll (by omega)];refine⟨x,?_,.inl F⟩;rw[←D];congr 1;rw[aiA,Nat.sub_mul];omega
       ·rename_i M;have I0:=i (m+d) j (by omega);obtain⟨x,D,F⟩:=I j E;rw[kc (by omega),kc (by omega)];exact⟨x,D,.inl F⟩)
    have hC:f.toList.take (m*sz)++(xs.drop (off*sz)).take (d*sz)++f.toList.drop (m*sz+d*sz)=(xs.take (m*sz)++(xs.drop (off*sz)).take (d*sz)++xs.drop (m*sz+d*sz))++f.toList.drop (xs.take (m*sz)++(xs.drop (off*sz)).take (d*sz)++xs.drop (m*sz+d*sz)).length:=by
     have key:∀(c:ee) (k n:Nat),k≤n→n≤c.length→c.drop k=(c.take n).drop k++c.drop n:=fun c k n h1 h2=>by
      conv=>lhs;rw[←aj9 n c]
      rw[List.drop_append_of_le_length (by rw[IN];omega)]
     have o0:l.length*sz≤f.toList.length:=by have:f.toList.length=f.size:=DO;rw[this,J];exact i3
     have a1:f.toList.take (m*sz)=xs.take (m*sz):=by
      rw[←y,List.take_take];congr 1;omega
     rw[D8 xs _ _ _ i1 (by omega),k0,key f.toList (m*sz+d*sz) (l.length*sz) (by omega) o0,y,a1];simp only[rl]
    rw[←hC]at N;have m0:br (ι id)=some g:=by rw[V];rfl
    have t0:=hs.world N rfl (by simp) (fun b _ hb=>hb) (fun b _ hb=>eC (fun e=>hb (.inr ⟨id,by rw[e];exact m0⟩))) (fun _ _ h=>h);have r0:look id (bi id (⟨e,sz,l.take m++(l.drop off).take d++l.drop (m+d)⟩:cg) s.r)=some ⟨e,sz,l.take m++(l.drop off).take d++l.drop (m+d)⟩:=by rw[cq,ll rfl]
    have h0:=t0.Bo (k:=m+d) f0 i0 r0 V (by show m+d≤(l.take m++(l.drop off).take d++l.drop (m+d)).length;rw[D8 l m off d h2 h3];omega);have q0:(l.take m++(l.drop off).take d++l.drop (m+d)).take (m+d)=l.take m++(l.drop off).take d:=by
     have:(l.take m++(l.drop off).take d).length=m+d:=by rw[ne,IN,IN,ahP];omega
     rw[ak3 (by omega),Dj (by omega)]
    simp only[q0,HP]at h0;exact⟨_,_,rep ι id (.slice (some ⟨g,0,none⟩) (m+d) c'),G,.ref _ _ _ _ _ (lw _ _ _),h0⟩
theorem abS(d id:Nat)(et:TypeId)(sz m off g:Nat)(enc:α→c6){L:List α}{x y:Operand}{T:TypeId}{bytes:Nat}(z:(Nat.ble 1 m&&(Nat.ble m off&&Nat.ble (off+g) L.length))=true)
  (k:OT C Q E D (aR f p (i+1)) (fS d id ⟨et,sz,(L.take m++(L.drop off).take g).map enc⟩ s))
  (t:(aW f p i).op=.call ⟨.builtin .append,#[x,y],#[T,T]⟩:=by kernel_rfl) (F:(aW f p i).dst=some d:=by kernel_rfl) (o:Nat.ble (d+1) C.n=true:=by kernel_rfl)
  (N:s.ev x=some (.sref id sz 0 m):=by kernel_rfl) (O:s.ev y=some (.sref id sz off g):=by kernel_rfl) (I:look id s.r=some ⟨et,sz,L.map enc⟩:=by kernel_rfl) (J:jg C.P T=some (et,sz,bytes):=by kernel_rfl)
  (r:s.u.contains (de id)=false:=by kernel_rfl) (u:Nat.ble (id+1) TG=true:=by kernel_rfl) (H:aR f p i=aW f p i::aR f p (i+1):=by kernel_rfl) (G:cE D s (aW f p i)=true:=by kernel_rfl):OT C Q E D (aR f p i) s:=by
 simp only[iO]at z;obtain⟨j,l,n⟩:=z;have j:=j3 j;have l:=j3 l;have n:=j3 n;rw[H];refine eZ _ G fun a w ι h=>?_;refine abM rfl fun K B=>?_;obtain⟨v,w',ι',c,M,e⟩:=Y3 (ty:=(aW f p i).type) (bytes:=bytes) h (j3 u) (h.hs.np r) (h.ev N) (h.ev O) I J j l (by rw[nx];exact n);have b:(List.map enc L).take m++((List.map enc L).drop off).take g=(L.take m++(L.drop off).take g).map enc:=by simp only[IT,List.map_take,alE]
 rw[b]at e;unfold Oper.wp;simp[execOp,t,resolve,invoke,builtin,c,Result.andThen];refine B (a.put (aW f p i).dst v) w' (k _ _ ι' ?_);have A:=e.put (d:=some d) (fun k q=>by injection q with q;subst q;exact j3 o) M;rw[F];exact A
end
end Go.Proofs.YtocgkfoifehcbaaGreat

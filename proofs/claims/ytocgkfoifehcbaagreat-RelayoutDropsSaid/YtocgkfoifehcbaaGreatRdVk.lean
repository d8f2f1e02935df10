/- Calls that are lent variables and one slice, with a result of which a slice is the callee's own; calls that are lent the state of layer 22. No program in sight. -/
import Derived.Test.YtocgkfoifehcbaaGreatRdVv
namespace Go.Proofs.YtocgkfoifehcbaaGreat
set_option linter.all false
open Go.RowKit
def ajv:=@List.mem_singleton
def amD:=@Array.mem_of_getElem?
def C2(a:Nat)(c:cj)(e:iF)(b:Nat)(d:cj)(s:AS):AS:=⟨dw a s.t,zb e (eV a s.o),bd b d (bd a c s.r),b::s.u⟩
theorem HS.ahL{M:Nat→Prop}{w0:aB}{w w':World}{ι E:Env}{s s1:AS}(h:HS M w0 w ι s){ρo ρ L:hZ}{f C:Nat}{ar a0:cj}{O O1 o2:iF}(hρ:ρ=(f,C)::ρo)(S:gU ρ L=true)(hO:fy ρ s.o ρo=some O)(hr:look f s.r=some ar)
  (S0:s.u.contains (da f)=false) (i1:look f s.o=none) (d1:∀p∈ρo,look p.1 s.r=none) (x0:∀p∈ρo,∃y,co L ι p.2=some y)
  (R:HS (fun b=>NN M ι b∧∀i,bu (co L ι i)≠some b) (mc w (co L ι) O) w' E s1) (t0:cq s1.o O1) (g1:look C s1.r=some a0) (t:dT L O1 ρo=some o2)
  {l H:Nat} {b0:cj} {Q:Value} (r0:has s.u l=false) (a1:look l ρ=none) (b1:H≠C) (c1:look H L=none) (k1:H<TG) (f0:E H=some Q) (v0:look H s1.r=some b0) :
  HS M w0 w' (ext (cE ι E f C) l Q) (C2 f a0 o2 l b0 s)∧(∀{v:AV} {x:Value},Rel (NN M ι) w ι v x→Rel (NN M (ext (cE ι E f C) l Q)) w' (ext (cE ι E f C) l Q) (v.cO f) x) ∧
   (∀{v v':AV} {x:Value},Rel (NN (fun b=>NN M ι b∧∀i,bu (co L ι i)≠some b) E) w' E v x→eo ((H,l)::L) v=some v'→Rel (NN M (ext (cE ι E f C) l Q)) w' (ext (cE ι E f C) l Q) v' x):=by
 have e0:look f ρ=some C:=by rw[hρ];simp[look]
 have J:∀i,i≠l→ext (cE ι E f C) l Q i=cE ι E f C i:=fun i hi=>bS _ _ hi;have P:ext (cE ι E f C) l Q l=some Q:=cJ _ _ _;have k0:∀id j,look id ρ=some j→id≠l:=fun id j e e'=>by rw[e',a1]at e;cases e
 have j1:f≠l:=k0 _ _ e0;have A0:=h.free r0;have o0:∀i,has s.u i=true→i≠l:=fun i hi e=>by rw[e,r0]at hi;cases hi
 have f1:∀id j,(id,j)∈ρo→E j=ι id∧look j L=some id:=fun id j hm=>by
  have F:look j L=some id:=by
   have q0:=S;simp only[gU,iO,n3]at q0;exact qc (q0.1 (id,j) (by rw[hρ];exact oR _ hm)).1
  obtain⟨y,hy⟩:=x0 _ hm;obtain⟨c,hc⟩:=Av hO hm;have U:=(R.pin j y (by show(match look j O with|some _=>co L ι j|none=>none)=some y;rw[hc];exact hy)).1;refine⟨?_,F⟩;rw[U,← k8 (ι:=ι) F];exact hy.symm
 have f2:∀j id,look j L=some id→cE ι E f C id=E j:=fun j id e=>by
  have D:=fP S e;unfold cE;by_cases A:id=f
  ·subst A;rw[lp rfl];rw[e0]at D;injection D with D;rw[D]
  ·rw[kc A];have:=jV D;rw[hρ]at this;rcases ol.1 this with N|N
   ·injection N with e4 e5;exact absurd e4 A
   ·exact(f1 id j N).1.symm
 have z:∀{q b},bu (co L ι q)=some b→∃id,look q L=some id∧bu (ι id)=some b:=fun {q b} hq=>by
  cases he:co L ι q with
  | none=>rw[he]at hq;cases hq
  | some y=>obtain⟨id,F,D⟩:=km he;exact⟨id,F,by rw[D];rw[he]at hq;exact hq⟩
 have o3:∀g,bu (some Q)=some g→(w.heap.size≤g∨bu (ι f)=some g)∧g<w'.heap.size∧bu (E C)≠some g:=fun g B=>by
  have m0:bu (E H)=some g:=by rw[f0];exact B
  obtain⟨m,V⟩:=R.own H g m0;refine⟨?_,V,fun e=>b1 (R.inj H C g m0 e)⟩;rcases m with m|⟨q,m⟩
  ·exact .inl m
  ·obtain⟨id,F,D⟩:=z m;have:=jV (fP S F);rw[hρ]at this;rcases ol.1 this with N|N
   ·injection N with e4 e5;rw[e4]at D;exact .inr D
   ·have e9:=(f1 id q N).1;have:=R.inj q H g (by rw[e9];exact D) m0;rw[this,c1]at F;cases F
 have l0:w.heap.size≤w'.heap.size:=R.below.size;have bZ:∀b,b<w.heap.size→(∀i,bu (co L ι i)≠some b)→w'.heap[b]?=w.heap[b]?:=fun b Y t=>R.below.block b Y (fun⟨i,hi⟩=>t i hi);have g0:∀b,b<w.heap.size→¬ NN M ι b→w'.heap[b]?=w.heap[b]?:=fun b Y t=>bZ b Y (fun i hi=>by
  obtain⟨id,_,e⟩:=z hi;exact t (.inr ⟨id,e⟩))
 have h0:∀b,NN M (ext (cE ι E f C) l Q) b→NN (fun b=>NN M ι b∧∀i,bu (co L ι i)≠some b) E b:=fun b t=>by
  rcases t with t|⟨id,t⟩
  ·exact .inl ⟨.inl t,fun i hi=>by obtain⟨id,_,e⟩:=z hi;exact h.sep t e⟩
  ·by_cases I:id=l
   ·rw[I,P]at t;exact .inr ⟨H,by rw[f0];exact t⟩
   rw[J _ I]at t;unfold cE at t;by_cases A:id=f
   ·rw[lp A]at t;exact .inr ⟨C,t⟩
   ·rw[kc A]at t;by_cases hl:∃i,bu (co L ι i)=some b
    ·obtain⟨q,hq⟩:=hl;obtain⟨Z,F,D⟩:=z hq;have:=h.inj Z id b D t;subst this;have:=f2 q Z F;unfold cE at this;rw[kc A]at this;exact .inr ⟨q,by rw[←this];exact t⟩
    ·exact .inl ⟨.inr ⟨id,t⟩,fun i hi=>hl ⟨i,hi⟩⟩
 have p0:∀b,b<w.heap.size→NN M (ext (cE ι E f C) l Q) b→NN M ι b:=fun b Y t=>by
  rcases t with t|⟨id,t⟩
  ·exact .inl t
  ·by_cases I:id=l
   ·rw[I,P]at t;rcases (o3 b t).1 with e|e
    ·exact absurd Y (akX.2 e)
    ·exact .inr ⟨f,e⟩
   rw[J _ I]at t;unfold cE at t;by_cases A:id=f
   ·rw[lp A]at t;rcases (R.own C b t).1 with e|⟨q,e⟩
    ·exact absurd Y (akX.2 e)
    ·obtain⟨Z,_,D⟩:=z e;exact .inr ⟨Z,D⟩
   ·rw[kc A]at t;exact .inr ⟨id,t⟩
 have T:∀{v:AV} {x:Value},Rel (NN M ι) w ι v x→Rel (NN M (ext (cE ι E f C) l Q)) w' (ext (cE ι E f C) l Q) (v.cO f) x:=fun hv =>
  (hv.mono l0 p0 g0 (fd A0 Q)).cO (fun i hi=>by
   by_cases I:i=l
   ·rw[I,P];exact(cJ _ _ _).symm
   ·rw[J _ I,bS _ _ I];exact kc hi)
 have np:w0.pv f=none:=h.np S0;refine⟨⟨?_,h.old,fun i y hy=>?_,fun i g B=>?_,fun i K g B n=>?_,fun i c hi=>?_,fun i a hi=>?_,fun i c hi U=>?_,fun i a hi U=>?_,fun i v U=>?_⟩,T,fun hv e=>yW hv h0 (fun j id e=>?_) e⟩
 ·refine h.below.trans ⟨R.below.os,R.below.tape,R.below.output,l0,fun k hk hG=>bZ k (wl hk h.below.size) (fun i hi=>?_)⟩;obtain⟨id,_,e⟩:=z hi;rcases (h.own id k e).1 with h9|h9
  ·exact absurd hk (akX.2 h9)
  ·exact hG h9
 ·by_cases I:i=l
  ·subst I;exact js _ _
  rw[J _ I]at hy;unfold cE at hy;by_cases A:i=f
  ·subst A;exact dS (h.kr i ar hr)
  ·rw[kc A]at hy;exact dS (h.use i y hy)
 ·by_cases I:i=l
  ·rw[I,P]at B;obtain⟨m,V,_⟩:=o3 g B;refine⟨?_,V⟩;rcases m with m|m
   ·exact .inl (RX h.below.size m)
   ·exact(h.own f g m).1
  rw[J _ I]at B;unfold cE at B;by_cases A:i=f
  ·rw[lp A]at B;obtain⟨m,V⟩:=R.own C g B;refine⟨?_,V⟩;rcases m with m|⟨q,m⟩
   ·exact .inl (RX h.below.size m)
   ·obtain⟨id,_,e⟩:=z m;exact(h.own id g e).1
  ·rw[kc A]at B;exact⟨(h.own i g B).1,wl (h.own i g B).2 l0⟩
 ·have s0:∀K,K≠f→bu (E C)=some g→bu (ι K)=some g→False:=fun K o B n=>by
   rcases (R.own C g B).1 with m|⟨q,m⟩
   ·exact absurd (h.own K g n).2 (akX.2 m)
   ·obtain⟨id,F,D⟩:=z m;have:=h.inj id K g D n;subst this;have N:=f2 q id F;unfold cE at N;rw[kc o]at N;have:=R.inj q C g (by rw[←N];exact D) B;subst this;have:=(fh S e0).1;rw[F]at this;injection this with this;exact o this
  have new:∀K,K≠l→bu (some Q)=some g→bu (cE ι E f C K)=some g→False:=fun K o B n=>by
   obtain⟨m,_,q3⟩:=o3 g B;unfold cE at n;by_cases A:K=f
   ·rw[lp A]at n;exact q3 n
   ·rw[kc A]at n;rcases m with m|m
    ·exact absurd (h.own K g n).2 (akX.2 m)
    ·exact A (h.inj K f g n m)
  by_cases I:i=l
  ·by_cases X:K=l
   ·rw[I,X]
   ·rw[I,P]at B;rw[J _ X]at n;exact(new K X B n).elim
  by_cases X:K=l
  ·rw[X,P]at n;rw[J _ I]at B;exact(new i I n B).elim
  rw[J _ I]at B;rw[J _ X]at n;unfold cE at B n;by_cases A:i=f
  ·by_cases W:K=f
   ·rw[A,W]
   ·rw[lp A]at B;rw[kc W]at n;exact(s0 K W B n).elim
  ·by_cases W:K=f
   ·rw[kc A]at B;rw[lp W]at n;exact(s0 i A n B).elim
   ·rw[kc A]at B;rw[kc W]at n;exact h.inj i K g B n
 ·rcases Ap hi with e|⟨_,e⟩
  ·obtain⟨j,d,m,_,_⟩:=wT t e;obtain⟨c0,y0⟩:=Av hO m;obtain⟨Z,cs,p1,p2,p3⟩:=BI hO y0;have F:=(f1 i j m).2;have D:=(f1 Z j p1).2;rw[F]at D;injection D with D;subst D
   exact dS (h.ko i cs p2)
  ·obtain⟨u,hu,_⟩:=jB e;exact dS (h.ko i u hu)
 ·have o:look i (bd l b0 (bd f a0 s.r))=some a:=hi;rw[cn]at o;split at o
  ·rename_i e;subst e;exact js _ _
  rw[cn]at o;split at o
  ·rename_i e;subst e;exact dS (h.kr i ar hr)
  ·exact dS (h.kr i a o)
 ·rcases Ap hi with e|⟨I,e⟩
  ·obtain⟨j,d,m,V,q3⟩:=wT t e;have e9:=(f1 i j m).2;have G:i≠l:=k0 i j (fP S e9);have F:=f2 j i e9;rw[J _ G,F]at U;rw[J _ G,F];obtain⟨g,T0,vs,r1,r2,r3⟩:=R.objs j d (JZ t0 V) U;exact⟨g,⟨T0.1,HX (Ji S e9) (fh S (fP S e9)).2.2 T0.2⟩,vs,r1,r2,r3.rn h0 (fun j id e=>(J _ (k0 id j (fP S e))).trans (f2 j id e)) q3⟩
  ·obtain⟨u,hu,rfl⟩:=jB e;have A:i≠f:=fun e=>by rw[e,i1]at hu;cases hu
   have G:i≠l:=o0 i (h.ko i u hu);have F:cE ι E f C i=ι i:=kc A;rw[J _ G,F]at U;rw[J _ G,F];obtain⟨g,T0,vs,r1,r2,r3⟩:=h.objs i u hu U;refine⟨g,T0,vs,r1,(bZ g (h.own i g (by rw[r1];rfl)).2 (fun q hq=>?_)).trans r2,⟨by rw[l5];exact r3.len,r3.one,fun k x v hx hv=>?_⟩⟩
   ·obtain⟨id,D,N⟩:=z hq;have:=h.inj id i g N (by rw[r1];rfl);subst this;have:=jV (fP S D);rw[hρ]at this;rcases ol.1 this with e4|e4
    ·injection e4 with e5 e6;exact A e5
    ·exact H1 t e4 I
   ·obtain⟨y,hy,rfl⟩:=lq hx;exact T (r3.rel k y v hy hv)
 ·have o:look i (bd l b0 (bd f a0 s.r))=some a:=hi;rw[cn]at o;split at o
  ·rename_i e;subst e;injection o with o;subst o
   rw[P];obtain⟨v,xs,m,V,q3,q4,q5⟩:=R.arrs H b0 v0 (by rw[f0];rfl);rw[f0]at m;injection m with m;subst m
   refine⟨Q,xs,rfl,V,q3,q4,fun j e hj k c hk=>?_⟩;obtain⟨x,hx,d0⟩:=q5 j e hj k c hk;exact⟨x,hx,.inl ((d0.flat (by omega)).mono (la _) (fun b _ t=>h0 b t) (fun _ _ _=>rfl) (fun _ _ h=>h))⟩
  rename_i G;rw[cn]at o;split at o
  ·rename_i e;subst e;injection o with o;subst o
   have F:cE ι E i C i=E C:=lp rfl;rw[J _ G,F]at U;rw[J _ G,F];have l1:=(fh S e0).2.2;obtain⟨v,xs,m,V,q3,q4,q5⟩:=R.arrs C a0 g1 U;refine⟨v,xs,m,V,q3,q4,fun j e hj k c hk=>?_⟩;obtain⟨x,hx,d0⟩:=q5 j e hj k c hk;exact⟨x,hx,.inl ((d0.flat (by omega)).mono (la _) (fun b _ t=>h0 b t) (fun _ _ _=>rfl) (fun _ _ h=>h))⟩
  ·rename_i A;have F:cE ι E f C i=ι i:=kc A;rw[J _ G,F]at U;rw[J _ G,F];obtain⟨v,xs,m,V,q3,q4,q5⟩:=h.arrs i a o U;have m1:=(fh S e0).2.1;refine⟨v,xs,m,fK V (fun g B=>bZ g (h.own i g (by rw[m];exact B)).2 (fun q hq=>?_)),q3,q4,fun j e hj k c hk=>?_⟩
   ·obtain⟨id,D,N⟩:=z hq;have:=h.inj id i g N (by rw[m];exact B);subst this;have:=jV (fP S D);rw[hρ]at this;rcases ol.1 this with e4|e4
    ·injection e4 with e5 e6;exact A e5
    ·have:=d1 _ e4;rw[o]at this;cases this
   ·obtain⟨x,hx,d0⟩:=q5 j e hj k c hk;have nb:∀q:Nat,dX≤nm i q:=fun q=>alR _ _;have lb:TG<dX:=by decide
    refine⟨x,hx,d0.mono l0 p0 g0 (fun r i0=>?_) (fun r i0=>bZ r (h.j6 i0) (fun q hq=>?_)) (fun h=>h)⟩
    ·exact(J _ (o0 _ (Pb _ _ _))).trans ((kc (fun e=>by have:=nb (j*a.sz+k);omega)).trans i0)
    ·obtain⟨id,D,N⟩:=z hq;have:=h.inj id _ r N (by rw[i0];rfl);have h9:=(fh S (fP S D)).2.1;have:=nb (j*a.sz+k);omega
 ·obtain⟨m,V⟩:=h.pin i v U;have G:i≠l:=o0 i (h.use i v m);refine⟨?_,rF V⟩;have A:i≠f:=fun e=>by rw[e,np]at U;cases U
  exact(J _ G).trans ((kc A).trans m)
 ·simp only[look]at e;split at e
  ·rename_i ej;injection e with e;subst e;subst ej;exact P.trans f0.symm
  ·exact(J _ (k0 id j (fP S e))).trans (f2 j id e)
def um(d:Cx)(ι:Env)(w:World)(ρ:hZ)(a:c6)(xs:Array Value):Prop :=
 a.length=xs.size∧∀(i:Nat) v x,a[i]?=some v→xs[i]?=some x→∀N' c,(∀b,N' b→NN d.M ι b)→(∀id j,look id ρ=some j→c j=ι id)→Rel N' w c v x
def i8(f g:Nat):Value:=.func (.func f) #[.pointer (some ⟨g,0,none⟩)] #[]
def mb(s:AS)(o:Oper)(ρ:hZ):Option (FuncId×c6) :=
 match o.op with
 | .call c=>match c.callee with
  | .value a=>match s.ev a,dj s c.args.toList with
   | some (.fn f aR),some l=>match fZ ρ l with
    | some l'=>some (f,l'++aR)
    | none=>none
   | _,_=>none
  | _=>none
 | _=>none
def IY(s:AS)(o:Oper)(ρ:hZ):Option (Value×c6) :=
 match o.op with
 | .call c=>match c.callee with
  | .value a=>match s.ev a,dj s c.args.toList with
   | some (.vv x),some l=>match fZ ρ l with
    | some l'=>some (x,l')
    | none=>none
   | _,_=>none
  | _=>none
 | _=>none
section
variable{d:Cx}{s:AS}{a:Act}{w:World}{ι:Env}
theorem Qy(e:aV d s a w ι){l l'}{xs:Array Operand}{ρ}(b:dj s xs.toList=some l)(c:fZ ρ l=some l'):um d ι w ρ l' (xs.map a.eval):=by
 obtain⟨k,m⟩:=lr e b;refine⟨by grind[sx],fun i v x g h N' n f j=>?_⟩
 grind[wC,yW]
theorem Cz(z:aV d s a w ι){o:Oper}{ρ:hZ}{g:FuncId}{e:c6}(h:mb s o ρ=some (g,e))(p:cI d.P g=true):
  ∃xs:Array Value,(execOp a.eval o).run d.P w=.ok (.enter g xs) w∧um d ι w ρ e xs:=by
 unfold mb at h;split at h
 case h_2=>cases h
 rename_i c r;split at h
 case h_2=>cases h
 rename_i K j;split at h
 case h_2=>cases h
 rename_i f aR l E F;split at h
 case h_2=>cases h
 rename_i l' q;injection h with h;injection h with A B;subst A;subst B
 obtain⟨L,t,D,n⟩:=kF z r j E p;obtain⟨p1,I⟩:=Qy z F q;refine⟨_,t,by simp at p1⊢;omega,fun i v x m k N' J u H=>?_⟩;by_cases hi:i<l'.length
 ·rw[zt hi]at m;rw[Dz (by rw[←p1];exact hi)]at k;exact I i v x m k N' J u H
 ·rw[z3 (by omega)]at m;rw[akU (by rw[←p1];omega)]at k;rw[←p1]at k;exact(n _ v x m (by simpa using k)).mono (la _) (fun b _ C=>u b C) (fun _ _ _=>rfl) (fun id y G=>by cases G)
theorem V9(u:aV d s a w ι){o:Oper}{ρ:hZ}{f g j id:Nat}{b:c6}(h:IY s o ρ=some (i8 f g,b))(p:cI d.P f=true)(H:look id ρ=some j)(F:ι id=some (.pointer (some ⟨g,0,none⟩))):
  ∃xs:Array Value,(execOp a.eval o).run d.P w=.ok (.enter f xs) w∧um d ι w ρ (.ptr j 0::b) xs:=by
 unfold IY at h;split at h
 case h_2=>cases h
 rename_i c r;split at h
 case h_2=>cases h
 rename_i B m;split at h
 case h_2=>cases h
 rename_i x l E G;split at h
 case h_2=>cases h
 rename_i l' q;injection h with h;injection h with z A;subst z;subst A
 obtain⟨p1,I⟩:=Qy u G q;have t:=u.ev E;generalize D:a.eval B=X at t;cases t with
 | vv _ _ K =>
  refine⟨#[.pointer (some ⟨g,0,none⟩)]++c.args.map a.eval,?_,by simp at p1⊢;omega,fun i v x k n N' J C y=>?_⟩
  ·unfold execOp;simp only[r,resolve,m,D,i8,Deferred.ofValue,sj,Qf,u5,invoke];rw[Ga p];simp
  ·cases i with
   | zero =>
    simp only[List.getElem?_cons_zero]at k;injection k with k;subst k
    rw[Dz (by simp)]at n;have e:some (Value.pointer (some ⟨g,0,none⟩))=some x:=n;injection e with e;subst e
    exact .ptr _ _ _ _ ((y id j H).trans F)
   | succ i =>
    simp only[alE]at k;rw[akU (by simp)]at n;exact I i v x k (by simpa using n) N' J C y
end
def wE(ρ:hZ):AV→Option AV
 | .tup l=>match fZ ρ l with|some l'=>some (.tup l')|none=>none
 | v=>eo ρ v
theorem agO{N N'}{w w'}{ι ι'}{ρ}(G:∀{v v':AV} {x:Value},Rel N w ι v x→eo ρ v=some v'→Rel N' w' ι' v' x){v v'}{x}(h:Rel N w ι v x)(e:wE ρ v=some v'):Rel N' w' ι' v' x:=by
 unfold wE at e;split at e
 ·split at e
  ·injection e with e;subst e
   cases h with
   | tup _ _ vs a d =>
    refine .tup _ _ vs (by grind[sx]) (fun i c y b f=>?_)
    grind[wC]
  grind
 grind
class GS where
 g:Nat
class SG [GS] (w0:aB):Prop where
 pv:w0.pv 440001=some (.pointer (some ⟨GS.g,0,none⟩))
def SU:ed:=[440009,440001,1440001]
def eA[GS](P:Program)(f:FuncId)(b:c6)(O:iF)(ar:cj)(Q:AV→AS→Prop):Prop :=
 ∀M w c xs,c 440001=some (.pointer (some ⟨GS.g,0,none⟩))→HS M (mc w c O) w c ⟨[],O,[(440009,ar)],SU⟩→b.length=xs.size→(∀(i:Nat) a x,b[i]?=some a→xs[i]?=some x→Rel (NN M c) w c a x)→Calls P f xs w (bI M (mc w c O) Q)
theorem jC[GS]{P:Program}{f:FuncId}{i:Func}{c:Code}{b:c6}{O:iF}{ar:cj}{Q:AV→AS→Prop}(s:P.funcs[f]?=some i)(r:i.body=some c)(n:Nat)(z:i.ntmps=n)(y:b.length≤n)
  (h:∀M p [SG p],VE ⟨P,n,M,p⟩ (bodyPost P i (bI M p Q)) [.c c] .normal ⟨idxs 0 b,O,[(440009,ar)],SU⟩) (q:(look 440001 O).isSome=true:=by kernel_rfl):eA P f b O ar Q:=by
 intro M w j xs t d o x;obtain⟨c0,l⟩:=w3.1 q;haveI:SG (mc w j O):=⟨by show(match look 440001 O with|some _=>j 440001|none=>none)=_;rw[l];exact t⟩;refine al1 s r ?_;refine am3 (h M (mc w j O) { tmps:=xs++Array.replicate (i.ntmps-xs.size) undef,defers:=[] } w j ?_) (fun e a w' u=>?_)
 ·refine⟨⟨d.below,d.old,d.use,d.own,d.inj,d.ko,d.kr,d.objs,d.arrs,d.pin⟩,rfl,?_,fun k v m=>?_⟩
  ·simp;omega
  ·rw[qf,lp (u4 _),ale]at m;have g:k<xs.size:=by rw[←o];exact(jt.1 m).1
   refine⟨xs[k],?_,x k v _ m (ll g)⟩;simp only[];rw[Dz g,ll g]
 ·cases e<;>exact u
def bO(b a:Nat):hZ:=[(a,440009),(b,440001)]
def jE(s:AS)(b a:Nat):Bool :=
 gU (bO b a) (b8 (bO b a))&&(xF SU [(b,440001)] 440009&&((match s.u.contains (da a) with|true=>false|false=>true)&&((match look a s.o with|none=>true|some _=>false) &&
  (match look b s.r with|none=>true|some _=>false))))
def Cq(s:AS)(d c b a:Nat):Bool:=(match has s.u b with|true=>false|false=>true)&&((match look b (bO d c) with|none=>true|some _=>false)&&((match Nat.beq a 440009 with|true=>false|false=>true)&&((match look a (b8 (bO d c)) with|none=>true|some _=>false)&&Nat.ble (a+1) TG)))
theorem YN{s}{d c b a}(h:Cq s d c b a=true):has s.u b=false∧look b (bO d c)=none∧a≠440009∧look a (b8 (bO d c))=none∧a<TG:=by
 simp only[Cq,iO]at h;obtain⟨g,i,j,k,f⟩:=h;refine⟨?_,?_,fun e=>?_,?_,kb f⟩
 ·grind
 ·grind
 ·simp_all
 grind
section
variable{c:Cx}{Q:Exit→Act→World→Prop}{m:dt}{s:AS}{d:Array Oper}{f:Func}{p:ed}{i:Nat}
theorem Vw[GS]{a:Act}{w:World}{ι:Env}(B:aV c s a w ι)(f d:Nat){g:FuncId}{h:c6}{V1 V2:AV}{O O1 X:iF}{ar m:cj}(hc:eA c.P g h O ar (fun v Y=>v=V1∧cq Y.o O1∧look 440009 Y.r=some m))
  (hg:ι f=some (.pointer (some ⟨GS.g,0,none⟩))) {o:Oper}
  (A:∃xs:Array Value,(execOp a.eval o).run c.P w=.ok (.enter g xs) w∧um c ι w (bO f d) h xs)
  (hO:fy (bO f d) s.o [(f,440001)]=some O) (E:look d s.r=some ar) (I:dT (b8 (bO f d)) O1 [(f,440001)]=some X) (U:eo (b8 (bO f d)) V1=some V2)
  (hd:cK c.n o.dst=true) (t:jE s f d=true) {Kn:Act→World→Prop} {Q:Exit→Act→World→Prop} (k:∀x w' Z,aV c ((j7 d m X s).put o.dst V2) (a.put o.dst x) w' (cE ι Z d 440009)→Kn (a.put o.dst x) w'):o.wp c.P a w Kn Q:=by
 simp only[jE,iO]at t;obtain⟨q,k2,k3,k4,k5⟩:=t;have L:s.u.contains (da d)=false:=by
  cases z:s.u.contains (da d) with
  | true=>rw[z]at k3;cases k3
  | false=>rfl
 have T:look d s.o=none:=by
  cases z:look d s.o with
  | some _=>rw[z]at k4;cases k4
  | none=>rfl
 have M:∀p∈[(f,440001)],look p.1 s.r=none:=fun p N=>by
  rw[ajv.1 N];cases z:look f s.r with
  | some _=>rw[z]at k5;cases k5
  | none=>rfl
 have D:co (b8 (bO f d)) ι 440001=ι f:=k8 (fh q (by
  show look f [(d,440009),(f,440001)]=some 440001;have:f≠d:=fun e=>by
   have h1:=(fh (id:=d) (j:=440009) q (by simp[bO,look])).1;have r:=q;simp only[gU,iO,n3]at r;have F:=(r.1 (f,440001) (by simp[bO])).1;have h3:=fP q (qc F);rw[e]at h3;simp[bO,look]at h3
  simp[look,this])).1
 unfold Oper.wp;obtain⟨xs,R,V,W⟩:=A;rw[R,ahR];have hN:∀b,NN (fun b=>NN c.M ι b∧∀i,bu (co (b8 (bO f d)) ι i)≠some b) (co (b8 (bO f d)) ι) b→NN c.M ι b:=fun b l=>by
  rcases l with l|⟨j,l⟩
  ·exact l.1
  ·cases J:co (b8 (bO f d)) ι j with
   | none=>rw[J]at l;cases l
   | some y=>obtain⟨id,_,F⟩:=km J;exact .inr ⟨id,by rw[F];rw[J]at l;exact l⟩
 have n:∀(i:Nat) (a:AV) (x:Value),h[i]?=some a→xs[i]?=some x→Rel (NN (fun b=>NN c.M ι b∧∀i,bu (co (b8 (bO f d)) ι i)≠some b) (co (b8 (bO f d)) ι)) w (co (b8 (bO f d)) ι) a x:=fun i v x hv hx =>
  W i v x hv hx _ _ hN (fun id j e=>k8 (fh q e).1)
 have H:∀p∈[(f,440001)],∃y,co (b8 (bO f d)) ι p.2=some y:=fun p N=>by
  rw[ajv.1 N];exact⟨_,D.trans hg⟩
 refine (hc _ w _ xs (D.trans hg) (B.hs.JY rfl q hO E k2) V n).mono ?_
 rintro e w' ⟨x,v,Y,Z,rfl,⟨rfl,G,P⟩,K,S⟩
 obtain⟨g1,g2,g3⟩:=B.hs.Ls rfl q hO E L T M H K G P I;have C:aV c (j7 d m X s) a w' (cE ι Z d 440009):=⟨g1,B.dfr,B.n,fun k v hk=>by
  obtain⟨u,hu,rfl⟩:=ow hk;obtain⟨y,hy,E⟩:=B.tmp k u hu;exact⟨y,hy,g2 E⟩⟩
 exact k _ _ _ (C.put (fX hd) (g3 S U))
theorem KF[GS]{a}{w}{ι}(G:aV c s a w ι) b e{g}{j}{V1}{O t}{ar l}(C:eA c.P g j O ar (fun v y=>v=V1∧cq y.o t∧look 440009 y.r=some l))
  (E:ι b=some (.pointer (some ⟨GS.g,0,none⟩)))
  (q:∃xs:Array Value,(execOp a.eval { aS f p i with guard:=none }).run c.P w=.ok (.enter g xs) w∧um c ι w (bO b e) j xs)
  (k:OT c Q m d (aU f p (i+1)) ((j7 e l ((dT (b8 (bO b e)) t [(b,440001)]).getD []) s).put (aS f p i).dst ((eo (b8 (bO b e)) V1).getD .any)))
  (A:fy (bO b e) s.o [(b,440001)]=some O) (F:look e s.r=some ar) (B:(dT (b8 (bO b e)) t [(b,440001)]).isSome=true) (H:(eo (b8 (bO b e)) V1).isSome=true)
  (D:cK c.n (aS f p i).dst=true) (u:jE s b e=true):wpList c.P d (Kw c.P Q m) ({ aS f p i with guard:=none }::aU f p (i+1)) a w:=by
 refine Ts rfl fun K z=>?_;obtain⟨I,n⟩:=w3.1 B;obtain⟨V2,r⟩:=w3.1 H;rw[n,r]at k;exact Vw (o:={ aS f p i with guard:=none }) G b e C E q A F n r D u (fun x w' J h=>z _ _ (k _ _ _ h))
theorem XB[GS]{a:Act}{w:World}{ι:Env}(L:aV c s a w ι)(l n o r:Nat){g:FuncId}{q:c6}{V1:AV}{O U:iF}{ar z A:cj}(hc:eA c.P g q O ar (fun v T=>v=V1∧cq T.o U∧look 440009 T.r=some z∧look r T.r=some A))(G:∀(N:Nat→Prop) w ι x,Rel N w ι V1 x→∃y,ι r=some y)
  (hg:ι l=some (.pointer (some ⟨GS.g,0,none⟩)))
  (I:∃xs:Array Value,(execOp a.eval { aS f p i with guard:=none }).run c.P w=.ok (.enter g xs) w∧um c ι w (bO l n) q xs)
  (k:OT c Q m d (aU f p (i+1)) ((C2 n z ((dT (b8 (bO l n)) U [(l,440001)]).getD []) o A s).put (aS f p i).dst ((wE ((r,o)::b8 (bO l n)) V1).getD .any)))
  (hO:fy (bO l n) s.o [(l,440001)]=some O) (S:look n s.r=some ar) (t:(dT (b8 (bO l n)) U [(l,440001)]).isSome=true) (hv:(wE ((r,o)::b8 (bO l n)) V1).isSome=true)
  (hd:cK c.n (aS f p i).dst=true) (F:jE s l n=true) (hI:Cq s l n o r=true):wpList c.P d (Kw c.P Q m) ({ aS f p i with guard:=none }::aU f p (i+1)) a w:=by
 refine Ts rfl fun K hK=>?_;obtain⟨o2,D⟩:=w3.1 t;obtain⟨V2,R⟩:=w3.1 hv;rw[D,R]at k;simp only[aag]at k;simp only[jE,iO]at F;obtain⟨C,k2,k3,k4,k5⟩:=F;have a0:s.u.contains (da n)=false:=by
  cases H:s.u.contains (da n) with
  | true=>rw[H]at k3;cases k3
  | false=>rfl
 have f0:look n s.o=none:=by
  cases H:look n s.o with
  | some _=>rw[H]at k4;cases k4
  | none=>rfl
 have b0:∀p∈[(l,440001)],look p.1 s.r=none:=fun p hp=>by
  rw[ajv.1 hp];cases H:look l s.r with
  | some _=>rw[H]at k5;cases k5
  | none=>rfl
 have P:co (b8 (bO l n)) ι 440001=ι l:=k8 (fh C (by
  show look l [(n,440009),(l,440001)]=some 440001;have:l≠n:=fun e=>by
   have h1:=(fh (id:=n) (j:=440009) C (by simp[bO,look])).1;have E:=C;simp only[gU,iO,n3]at E;have V:=(E.1 (l,440001) (by simp[bO])).1;have h3:=fP C (qc V);rw[e]at h3;simp[bO,look]at h3
  simp[look,this])).1
 unfold Oper.wp;obtain⟨xs,e0,h0,i0⟩:=I;rw[e0,ahR];have hN:∀b,NN (fun b=>NN c.M ι b∧∀i,bu (co (b8 (bO l n)) ι i)≠some b) (co (b8 (bO l n)) ι) b→NN c.M ι b:=fun b t=>by
  rcases t with t|⟨j,t⟩
  ·exact t.1
  ·cases Y:co (b8 (bO l n)) ι j with
   | none=>rw[Y]at t;cases t
   | some y=>obtain⟨id,_,V⟩:=km Y;exact .inr ⟨id,by rw[V];rw[Y]at t;exact t⟩
 have B:∀(i:Nat) (a:AV) (x:Value),q[i]?=some a→xs[i]?=some x→Rel (NN (fun b=>NN c.M ι b∧∀i,bu (co (b8 (bO l n)) ι i)≠some b) (co (b8 (bO l n)) ι)) w (co (b8 (bO l n)) ι) a x:=fun i v x hv hx =>
  i0 i v x hv hx _ _ hN (fun id j e=>k8 (fh C e).1)
 have X:∀p∈[(l,440001)],∃y,co (b8 (bO l n)) ι p.2=some y:=fun p hp=>by
  rw[ajv.1 hp];exact⟨_,P.trans hg⟩
 refine (hc _ w _ xs (P.trans hg) (L.hs.JY rfl C hO S k2) h0 B).mono ?_
 rintro e w' ⟨x,v,T,ι1,rfl,⟨rfl,W,c0,d0⟩,Z,J⟩
 obtain⟨v3,g0⟩:=G _ _ _ _ J;obtain⟨i1,i2,i3,i4,i5⟩:=YN hI;obtain⟨g1,g2,g3⟩:=L.hs.ahL rfl C hO S a0 f0 b0 X Z W c0 D i1 i2 i3 i4 i5 g0 d0;have M:aV c (C2 n z o2 o A s) a w' (ext (cE ι ι1 n 440009) o v3):=⟨g1,L.dfr,L.n,fun k v hk=>by
  obtain⟨u,hu,rfl⟩:=ow hk;obtain⟨y,hy,S⟩:=L.tmp k u hu;exact⟨y,hy,g2 S⟩⟩
 exact hK _ _ (k _ _ _ (M.put (fX hd) (agO (fun h e=>g3 h e) J R)))
theorem qG[GS][SG c.w0]{g}{b}{V1}{O h}{ar e}(u:eA c.P g b O ar (fun v o=>v=V1∧cq o.o h∧look 440009 o.r=some e))
  (k:OT c Q m d (aU f p (i+1)) ((j7 440009 e ((dT (b8 (bO 440001 440009)) h [(440001,440001)]).getD []) s).put (aS f p i).dst ((eo (b8 (bO 440001 440009)) V1).getD .any)))
  (j:cI c.P g=true:=by kernel_rfl) (z:aU f p i=aS f p i::aU f p (i+1):=by kernel_rfl) (y:cC d s (aS f p i)=true:=by kernel_rfl) (q:mb s { aS f p i with guard:=none } (bO 440001 440009)=some (g,b):=by kernel_rfl)
  (r:fy (bO 440001 440009) s.o [(440001,440001)]=some O:=by kernel_rfl) (A:look 440009 s.r=some ar:=by kernel_rfl) (t:(dT (b8 (bO 440001 440009)) h [(440001,440001)]).isSome=true:=by kernel_rfl) (B:(eo (b8 (bO 440001 440009)) V1).isSome=true:=by kernel_rfl)
  (x:cK c.n (aS f p i).dst=true:=by kernel_rfl) (l:jE s 440001 440009=true:=by kernel_rfl):OT c Q m d (aU f p i) s:=by
 rw[z];exact eU _ y fun a w ι n=>KF n 440001 440009 u ((n.hs.pin _ _ SG.pv).1) (Cz n q j) k r A t B x l
theorem Qg[GS][SG c.w0] e{b}{g}{h}{V1}{O o}{ar j l}(D:eA c.P g h O ar (fun v u=>v=V1∧cq u.o o∧look 440009 u.r=some j∧look b u.r=some l))(n:∀(N:Nat→Prop) w ι x,Rel N w ι V1 x→∃y,ι b=some y)
  (k:OT c Q m d (aU f p (i+1)) ((C2 440009 j ((dT (b8 (bO 440001 440009)) o [(440001,440001)]).getD []) e l s).put (aS f p i).dst ((wE ((b,e)::b8 (bO 440001 440009)) V1).getD .any)))
  (q:cI c.P g=true:=by kernel_rfl) (G:aU f p i=aS f p i::aU f p (i+1):=by kernel_rfl) (F:cC d s (aS f p i)=true:=by kernel_rfl) (z:mb s { aS f p i with guard:=none } (bO 440001 440009)=some (g,h):=by kernel_rfl)
  (B:fy (bO 440001 440009) s.o [(440001,440001)]=some O:=by kernel_rfl) (H:look 440009 s.r=some ar:=by kernel_rfl) (C:(dT (b8 (bO 440001 440009)) o [(440001,440001)]).isSome=true:=by kernel_rfl) (I:(wE ((b,e)::b8 (bO 440001 440009)) V1).isSome=true:=by kernel_rfl)
  (E:cK c.n (aS f p i).dst=true:=by kernel_rfl) (r:jE s 440001 440009=true:=by kernel_rfl) (A:Cq s 440001 440009 e b=true:=by kernel_rfl):OT c Q m d (aU f p i) s:=by
 rw[G];exact eU _ F fun a w ι t=>XB t 440001 440009 e b D n ((t.hs.pin _ _ SG.pv).1) (Cz t z q) k B H C I E r A
theorem LM[GS][SG c.w0]{g}{b}{V1}{O j}{ar e}(u:eA c.P g (.ptr 440001 0::b) O ar (fun v o=>v=V1∧cq o.o j∧look 440009 o.r=some e))
  (k:OT c Q m d (aU f p (i+1)) ((j7 440009 e ((dT (b8 (bO 440001 440009)) j [(440001,440001)]).getD []) s).put (aS f p i).dst ((eo (b8 (bO 440001 440009)) V1).getD .any)))
  (l:cI c.P g=true:=by kernel_rfl) (z:aU f p i=aS f p i::aU f p (i+1):=by kernel_rfl) (y:cC d s (aS f p i)=true:=by kernel_rfl) (q:IY s { aS f p i with guard:=none } (bO 440001 440009)=some (i8 g GS.g,b):=by kernel_rfl)
  (r:fy (bO 440001 440009) s.o [(440001,440001)]=some O:=by kernel_rfl) (A:look 440009 s.r=some ar:=by kernel_rfl) (t:(dT (b8 (bO 440001 440009)) j [(440001,440001)]).isSome=true:=by kernel_rfl) (B:(eo (b8 (bO 440001 440009)) V1).isSome=true:=by kernel_rfl)
  (x:cK c.n (aS f p i).dst=true:=by kernel_rfl) (n:jE s 440001 440009=true:=by kernel_rfl):OT c Q m d (aU f p i) s:=by
 rw[z];exact eU _ y fun a w ι h=>KF h 440001 440009 u ((h.hs.pin _ _ SG.pv).1) (V9 h q l (by rfl) ((h.hs.pin _ _ SG.pv).1)) k r A t B x n
theorem CE(h n:Nat){g:FuncId}{o:c6}{V1:AV}{O B:iF}{ar t:cj}(W:∀ [GS],eA c.P g o O ar (fun v P=>v=V1∧cq P.o B∧look 440009 P.r=some t))
  (k:OT c Q m d (aU f p (i+1)) ((j7 n t ((dT (b8 (bO h n)) B [(h,440001)]).getD []) s).put (aS f p i).dst ((eo (b8 (bO h n)) V1).getD .any)))
  (D:cI c.P g=true:=by kernel_rfl) (Z:aU f p i=aS f p i::aU f p (i+1):=by kernel_rfl) (Y:cC d s (aS f p i)=true:=by kernel_rfl) (C:mb s { aS f p i with guard:=none } (bO h n)=some (g,o):=by kernel_rfl)
  (A:fy (bO h n) s.o [(h,440001)]=some O:=by kernel_rfl) (hr:look n s.r=some ar:=by kernel_rfl) (r:(dT (b8 (bO h n)) B [(h,440001)]).isSome=true:=by kernel_rfl) (hv:(eo (b8 (bO h n)) V1).isSome=true:=by kernel_rfl)
  (X:cK c.n (aS f p i).dst=true:=by kernel_rfl) (u:jE s h n=true:=by kernel_rfl) (hp:o.any (wN 440001)=true:=by kernel_rfl):OT c Q m d (aU f p i) s:=by
 rw[Z];refine eU _ Y fun a w ι H=>?_;obtain⟨xs,q1,M,N⟩:=Cz H C D;have K:=u;simp only[jE,iO]at K;have V:∀b,NN (fun b=>NN c.M ι b∧∀i,bu (co (b8 (bO h n)) ι i)≠some b) (co (b8 (bO h n)) ι) b→NN c.M ι b:=fun b r=>by
  rcases r with r|⟨j,r⟩
  ·exact r.1
  ·cases F:co (b8 (bO h n)) ι j with
   | none=>rw[F]at r;cases r
   | some y=>obtain⟨id,_,z⟩:=km F;exact .inr ⟨id,by rw[z];rw[F]at r;exact r⟩
 obtain⟨v,I,J⟩:=ahE.1 hp;obtain⟨q,L⟩:=alO.1 I;have G:q<xs.size:=by rw[←M];exact(jt.1 L).1
 obtain⟨y,hy⟩:=NM J (N q v _ L (ll G) _ _ V (fun id j e=>k8 (fh K.1 e).1));obtain⟨id,x,R⟩:=km hy;have S:id=h:=by
  have z:look 440001 (b8 (bO h n))=some h:=rfl;rw[z]at x;injection x with x;exact x.symm
 subst S;obtain⟨cs,E⟩:∃cs,look id s.o=some cs:=by
  unfold fy at A;split at A
  ·rename_i cs l C z;exact⟨cs,C⟩
  ·cases A
 obtain⟨U,_,_,T,_,_⟩:=H.hs.objs id cs E (by rw[R];rfl)
 letI:GS:=⟨U⟩
 exact KF H id n W T ⟨xs,q1,M,N⟩ k A hr r hv X u
end
def lR(b a:Nat)(d:Option Tmp)(c:cj)(e:iF)(V1:AV)(s:AS):AS:=(j7 a c ((dT (b8 (bO b a)) e [(b,440001)]).getD []) s).put d ((eo (b8 (bO b a)) V1).getD .any)
def B3(d:Option Tmp)(a:cj)(b:iF)(V1:AV)(s:AS):AS:=lR 440001 440009 d a b V1 s
def DH(b a:Nat)(s:AS):Bool:=match look b s.o with
 | some (.ref i::_)=>Nat.beq i a
 | _=>false
theorem Ob[GS](b f:Nat){P:Program}{n:Nat}{ops:Array Oper}{s:AS}{o:Oper}{J:Nat}{g:FuncId}{k:c6}{V1:AV}{O I:iF}{ar D:cj}(hc:eA P g k O ar (fun v s1=>v=V1∧cq s1.o I∧look 440009 s1.r=some D))
  (N:look J s.t=some (.lk b (.pointer (some ⟨GS.g,0,none⟩)))) (S:∀(j:Nat) (o':Oper),ops[j]?=some o'→o'.dst≠some J) (C:mb s o (bO b f)=some (g,k)) (M:cI P g=true)
  (hO:fy (bO b f) s.o [(b,440001)]=some O) (hr:look f s.r=some ar) (hb:(dT (b8 (bO b f)) I [(b,440001)]).isSome=true) (hv:(eo (b8 (bO b f)) V1).isSome=true)
  (hd:cK n o.dst=true) (U:jE s b f=true) (H:DH b f s=true):GK P n ops s (lR b f o.dst D I V1 s) o:=by
 refine⟨J,b,_,N,S,fun cx hP hn fl a w ι V Z F Kn Q hk=>?_⟩;subst hP;subst hn;obtain⟨o2,l⟩:=w3.1 hb;obtain⟨V2,z⟩:=w3.1 hv;have L:mb (s.tt (cy fl s.t)) o (bO b f)=some (g,k):=by
  unfold mb at C⊢;split at C
  case h_2=>cases C
  rename_i cl p;split at C
  case h_2=>cases C
  rename_i K m;have W:(s.tt (cy fl s.t)).ev K=s.ev K:=by
   cases K with
   | tmp t =>
    show look t (cy _ _)=look t _;rw[eX,lp (F (.tmp t) t (by simp[p,Op.operands,Call.operands,m]) rfl)]
   | const v=>rfl
   | func g=>rfl
   | global g=>rfl
  have X:dj (s.tt (cy fl s.t)) cl.args.toList=dj s cl.args.toList:=pF (fun x hx=>by
   cases x with
   | tmp t =>
    show look t (cy _ _)=look t _;rw[eX,lp (F (.tmp t) t (by simp[p,Op.operands,Call.operands,m];exact .inr (In.1 hx)) rfl)]
   | const v=>rfl
   | func g=>rfl
   | global g=>rfl)
  simp only[p,m,W,X];exact C
 refine Vw V b f hc Z (Cz V L M) hO hr l z hd U (fun x w' ι1 G=>hk _ _ _ _ (fun id a0 B=>?_) ?_ ?_ ?_ (fun t v i u=>?_) G)
 ·unfold cE;by_cases e:id=f
  ·exfalso;unfold DH at H;split at H
   case h_2=>cases H
   rename_i q r hq;obtain⟨g0,T,vs,W,X,Y⟩:=V.hs.objs b _ hq (by rw[Z];rfl);have R:0<vs.toList.length:=by rw[←Y.len];simp
   have:=Y.rel 0 _ _ rfl (j3 R);rw[nx H]at this;generalize vs.toList[0]=y at this;cases this with
   | ref _ _ A n c h=>rw[e,h]at B;cases B
  ·rw[kc e];exact B
 ·unfold lR;rw[l,z];cases o.dst<;>rfl
 ·unfold lR;rw[l,z];cases o.dst<;>rfl
 ·unfold lR;rw[l,z];cases o.dst<;>rfl
 ·unfold lR at u;rw[l,z]at u;simp only[aag]at u;cases E:o.dst with
  | none =>
   rw[E]at u i;rcases i with i|i
   ·show look t (dw _ (cy _ _))=_;rw[uX,eX,lp i];exact u
   ·cases i
  | some d =>
   rw[E]at u i;simp only[AS.put,j7,cn]at u⊢;by_cases e:t=d
   ·rw[lp e]at u⊢;exact u
   ·rw[kc e]at u⊢;rcases i with i|i
    ·show look t (dw _ (cy _ _))=_;rw[uX,eX,lp i];exact u
    ·injection i with i;exact(e i).elim
section
variable{P:Program}{n:Nat}{c:AS}{b:Array Oper}{K:Nat}{a:g7}{o:Oper}
theorem ET[GS](m r:Nat){g:FuncId}{d:c6}{V1:AV}{O f:iF}{ar e:cj}(y:eA P g d O ar (fun v s=>v=V1∧cq s.o f∧look 440009 s.r=some e))
  (i:cI P g=true:=by kernel_rfl) (A:B3 o.dst e f V1 (nth a m)=nth a (m+1):=by kernel_rfl) (l:look r (nth a m).t=some (.lk 440001 (.pointer (some ⟨GS.g,0,none⟩))):=by kernel_rfl) (p:xe r b.toList=true:=by kernel_rfl) (k:o.guard.isNone=true:=by kernel_rfl)
  (t:mb (nth a m) o (bO 440001 440009)=some (g,d):=by kernel_rfl)
  (w:fy (bO 440001 440009) (nth a m).o [(440001,440001)]=some O:=by kernel_rfl) (C:look 440009 (nth a m).r=some ar:=by kernel_rfl) (x:(dT (b8 (bO 440001 440009)) f [(440001,440001)]).isSome=true:=by kernel_rfl) (D:(eo (b8 (bO 440001 440009)) V1).isSome=true:=by kernel_rfl)
  (z:cK n o.dst=true:=by kernel_rfl) (q:jE (nth a m) 440001 440009=true:=by kernel_rfl) (u:DH 440001 440009 (nth a m)=true:=by kernel_rfl):fv P n c b K a o (.s (m+1)):=by
 have h:=Ob 440001 440009 (ops:=b) y l (fun j E B=>Hj p E (In.2 (amD B))) t i w C x D z q u;rw[show lR 440001 440009 o.dst e f V1 (nth a m)=nth a (m+1) from A]at h;exact⟨by rw[show o.guard=none by simpa using k];rfl,.inr h⟩
theorem M3(m t d e u:Nat){g:FuncId}{f:c6}{V1:AV}{O k:iF}{ar i:cj}(B:∀ [GS],eA P g f O ar (fun v w=>v=V1∧cq w.o k∧look 440009 w.r=some i))
  (l:cI P g=true:=by kernel_rfl) (D:lR d e o.dst i k V1 (nth a m)=nth a (m+1):=by kernel_rfl) (q:look t (nth a m).t=some (.lk d (.pointer (some ⟨u,0,none⟩))):=by kernel_rfl) (r:xe t b.toList=true:=by kernel_rfl) (p:cC b (nth a m) o=true:=by kernel_rfl)
  (x:mb (nth a m) o (bO d e)=some (g,f):=by kernel_rfl)
  (z:fy (bO d e) (nth a m).o [(d,440001)]=some O:=by kernel_rfl) (F:look e (nth a m).r=some ar:=by kernel_rfl) (A:(dT (b8 (bO d e)) k [(d,440001)]).isSome=true:=by kernel_rfl) (G:(eo (b8 (bO d e)) V1).isSome=true:=by kernel_rfl)
  (C:cK n o.dst=true:=by kernel_rfl) (s:jE (nth a m) d e=true:=by kernel_rfl) (y:DH d e (nth a m)=true:=by kernel_rfl):fv P n c b K a o (.s (m+1)):=by
 letI:GS:=⟨u⟩
 have h:=Ob d e (ops:=b) B q (fun j H E=>Hj r H (In.2 (amD E))) x l z F A G C s y;rw[D]at h;exact⟨BG p,.inr h⟩
end
end Go.Proofs.YtocgkfoifehcbaaGreat

/- Calls that are lent variables and one slice, with a result of which a slice is the callee's own; calls that are lent the state of layer 22. No program in sight. -/
import Derived.Test.YtocgkfoifehcbaaGreatRtVv
namespace Go.Proofs.YtocgkfoifehcbaaGreat
set_option linter.all false
open Go.RowKit
def aix:=@List.mem_singleton
def BG(a:Nat)(c:cg)(e:iF)(b:Nat)(d:cg)(s:AS):AS:=⟨dA a s.t,Ar e (eN a s.o),bi b d (bi a c s.r),b::s.u⟩
theorem HS.VM{M:Nat→Prop}{w0:aC}{w w':World}{ι E:Env}{s s1:AS}(h:HS M w0 w ι s){ρo ρ N:hZ}{f C:Nat}{ar b0:cg}{O O1 o2:iF}(hρ:ρ=(f,C)::ρo)(U:gO ρ N=true)(hO:fP ρ s.o ρo=some O)(hr:look f s.r=some ar)
  (Q0:s.u.contains (de f)=false) (g1:look f s.o=none) (c1:∀p∈ρo,look p.1 s.r=none) (y0:∀p∈ρo,∃y,cn N ι p.2=some y)
  (S:HS (fun b=>NN M ι b∧∀i,br (cn N ι i)≠some b) (lR w (cn N ι) O) w' E s1) (v0:cB s1.o O1) (d1:look C s1.r=some b0) (t:d7 N O1 ρo=some o2)
  {l H:Nat} {d0:cg} {R:Value} (s0:has s.u l=false) (S0:look l ρ=none) (a1:H≠C) (b1:look H N=none) (j1:H<TG) (g0:E H=some R) (x0:look H s1.r=some d0) :
  HS M w0 w' (ext (cJ ι E f C) l R) (BG f b0 o2 l d0 s)∧(∀{v:AV} {x:Value},Rel (NN M ι) w ι v x→Rel (NN M (ext (cJ ι E f C) l R)) w' (ext (cJ ι E f C) l R) (v.cS f) x) ∧
   (∀{v v':AV} {x:Value},Rel (NN (fun b=>NN M ι b∧∀i,br (cn N ι i)≠some b) E) w' E v x→eu ((H,l)::N) v=some v'→Rel (NN M (ext (cJ ι E f C) l R)) w' (ext (cJ ι E f C) l R) v' x):=by
 have f0:look f ρ=some C:=by rw[hρ];simp[look]
 have K:∀i,i≠l→ext (cJ ι E f C) l R i=cJ ι E f C i:=fun i I=>bS _ _ I;have Q:ext (cJ ι E f C) l R l=some R:=cO _ _ _;have l0:∀id j,look id ρ=some j→id≠l:=fun id j e e'=>by rw[e',S0]at e;cases e
 have i1:f≠l:=l0 _ _ f0;have I0:=h.free s0;have p0:∀i,has s.u i=true→i≠l:=fun i I e=>by rw[e,s0]at I;cases I
 have f1:∀id j,(id,j)∈ρo→E j=ι id∧look j N=some id:=fun id j hm=>by
  have F:look j N=some id:=by
   have r0:=U;simp only[gO,iO,n5]at r0;exact pd (r0.1 (id,j) (by rw[hρ];exact pt _ hm)).1
  obtain⟨y,hy⟩:=y0 _ hm;obtain⟨c,hc⟩:=Al hO hm;have V:=(S.pin j y (by show(match look j O with|some _=>cn N ι j|none=>none)=some y;rw[hc];exact hy)).1;refine⟨?_,F⟩;rw[V,← kR (ι:=ι) F];exact hy.symm
 have f2:∀j id,look j N=some id→cJ ι E f C id=E j:=fun j id e=>by
  have D:=fK U e;unfold cJ;by_cases A:id=f
  ·subst A;rw[ll rfl];rw[f0]at D;injection D with D;rw[D]
  ·rw[kc A];have:=kn D;rw[hρ]at this;rcases ol.1 this with P|P
   ·injection P with e4 e5;exact absurd e4 A
   ·exact(f1 id j P).1.symm
 have z:∀{q b},br (cn N ι q)=some b→∃id,look q N=some id∧br (ι id)=some b:=fun {q b} hq=>by
  cases he:cn N ι q with
  | none=>rw[he]at hq;cases hq
  | some y=>obtain⟨id,F,D⟩:=jU he;exact⟨id,F,by rw[D];rw[he]at hq;exact hq⟩
 have o3:∀g,br (some R)=some g→(w.heap.size≤g∨br (ι f)=some g)∧g<w'.heap.size∧br (E C)≠some g:=fun g B=>by
  have o0:br (E H)=some g:=by rw[g0];exact B
  obtain⟨m,W⟩:=S.own H g o0;refine⟨?_,W,fun e=>a1 (S.inj H C g o0 e)⟩;rcases m with m|⟨q,m⟩
  ·exact .inl m
  ·obtain⟨id,F,D⟩:=z m;have:=kn (fK U F);rw[hρ]at this;rcases ol.1 this with P|P
   ·injection P with e4 e5;rw[e4]at D;exact .inr D
   ·have e9:=(f1 id q P).1;have:=S.inj q H g (by rw[e9];exact D) o0;rw[this,b1]at F;cases F
 have m0:w.heap.size≤w'.heap.size:=S.below.size;have b8:∀b,b<w.heap.size→(∀i,br (cn N ι i)≠some b)→w'.heap[b]?=w.heap[b]?:=fun b Z t=>S.below.block b Z (fun⟨i,I⟩=>t i I);have h0:∀b,b<w.heap.size→¬ NN M ι b→w'.heap[b]?=w.heap[b]?:=fun b Z t=>b8 b Z (fun i I=>by
  obtain⟨id,_,e⟩:=z I;exact t (.inr ⟨id,e⟩))
 have i0:∀b,NN M (ext (cJ ι E f C) l R) b→NN (fun b=>NN M ι b∧∀i,br (cn N ι i)≠some b) E b:=fun b t=>by
  rcases t with t|⟨id,t⟩
  ·exact .inl ⟨.inl t,fun i I=>by obtain⟨id,_,e⟩:=z I;exact h.sep t e⟩
  ·by_cases J:id=l
   ·rw[J,Q]at t;exact .inr ⟨H,by rw[g0];exact t⟩
   rw[K _ J]at t;unfold cJ at t;by_cases A:id=f
   ·rw[ll A]at t;exact .inr ⟨C,t⟩
   ·rw[kc A]at t;by_cases hl:∃i,br (cn N ι i)=some b
    ·obtain⟨q,hq⟩:=hl;obtain⟨a0,F,D⟩:=z hq;have:=h.inj a0 id b D t;subst this;have:=f2 q a0 F;unfold cJ at this;rw[kc A]at this;exact .inr ⟨q,by rw[←this];exact t⟩
    ·exact .inl ⟨.inr ⟨id,t⟩,fun i I=>hl ⟨i,I⟩⟩
 have q0:∀b,b<w.heap.size→NN M (ext (cJ ι E f C) l R) b→NN M ι b:=fun b Z t=>by
  rcases t with t|⟨id,t⟩
  ·exact .inl t
  ·by_cases J:id=l
   ·rw[J,Q]at t;rcases (o3 b t).1 with e|e
    ·exact absurd Z (akf.2 e)
    ·exact .inr ⟨f,e⟩
   rw[K _ J]at t;unfold cJ at t;by_cases A:id=f
   ·rw[ll A]at t;rcases (S.own C b t).1 with e|⟨q,e⟩
    ·exact absurd Z (akf.2 e)
    ·obtain⟨a0,_,D⟩:=z e;exact .inr ⟨a0,D⟩
   ·rw[kc A]at t;exact .inr ⟨id,t⟩
 have T:∀{v:AV} {x:Value},Rel (NN M ι) w ι v x→Rel (NN M (ext (cJ ι E f C) l R)) w' (ext (cJ ι E f C) l R) (v.cS f) x:=fun hv =>
  (hv.mono m0 q0 h0 (fk I0 R)).cS (fun i I=>by
   by_cases J:i=l
   ·rw[J,Q];exact(cO _ _ _).symm
   ·rw[K _ J,bS _ _ J];exact kc I)
 have np:w0.pv f=none:=h.np Q0;refine⟨⟨?_,h.old,fun i y hy=>?_,fun i g B=>?_,fun i L g B n=>?_,fun i c I=>?_,fun i a I=>?_,fun i c I V=>?_,fun i a I V=>?_,fun i v V=>?_⟩,T,fun hv e=>AN hv i0 (fun j id e=>?_) e⟩
 ·refine h.below.trans ⟨S.below.os,S.below.tape,S.below.output,m0,fun k hk hG=>b8 k (wl hk h.below.size) (fun i I=>?_)⟩;obtain⟨id,_,e⟩:=z I;rcases (h.own id k e).1 with h9|h9
  ·exact absurd hk (akf.2 h9)
  ·exact hG h9
 ·by_cases J:i=l
  ·subst J;exact jG _ _
  rw[K _ J]at hy;unfold cJ at hy;by_cases A:i=f
  ·subst A;exact dV (h.kr i ar hr)
  ·rw[kc A]at hy;exact dV (h.use i y hy)
 ·by_cases J:i=l
  ·rw[J,Q]at B;obtain⟨m,W,_⟩:=o3 g B;refine⟨?_,W⟩;rcases m with m|m
   ·exact .inl (aaN h.below.size m)
   ·exact(h.own f g m).1
  rw[K _ J]at B;unfold cJ at B;by_cases A:i=f
  ·rw[ll A]at B;obtain⟨m,W⟩:=S.own C g B;refine⟨?_,W⟩;rcases m with m|⟨q,m⟩
   ·exact .inl (aaN h.below.size m)
   ·obtain⟨id,_,e⟩:=z m;exact(h.own id g e).1
  ·rw[kc A]at B;exact⟨(h.own i g B).1,wl (h.own i g B).2 m0⟩
 ·have t0:∀L,L≠f→br (E C)=some g→br (ι L)=some g→False:=fun L o B n=>by
   rcases (S.own C g B).1 with m|⟨q,m⟩
   ·exact absurd (h.own L g n).2 (akf.2 m)
   ·obtain⟨id,F,D⟩:=z m;have:=h.inj id L g D n;subst this;have P:=f2 q id F;unfold cJ at P;rw[kc o]at P;have:=S.inj q C g (by rw[←P];exact D) B;subst this;have:=(fb U f0).1;rw[F]at this;injection this with this;exact o this
  have new:∀L,L≠l→br (some R)=some g→br (cJ ι E f C L)=some g→False:=fun L o B n=>by
   obtain⟨m,_,q3⟩:=o3 g B;unfold cJ at n;by_cases A:L=f
   ·rw[ll A]at n;exact q3 n
   ·rw[kc A]at n;rcases m with m|m
    ·exact absurd (h.own L g n).2 (akf.2 m)
    ·exact A (h.inj L f g n m)
  by_cases J:i=l
  ·by_cases Y:L=l
   ·rw[J,Y]
   ·rw[J,Q]at B;rw[K _ Y]at n;exact(new L Y B n).elim
  by_cases Y:L=l
  ·rw[Y,Q]at n;rw[K _ J]at B;exact(new i J n B).elim
  rw[K _ J]at B;rw[K _ Y]at n;unfold cJ at B n;by_cases A:i=f
  ·by_cases X:L=f
   ·rw[A,X]
   ·rw[ll A]at B;rw[kc X]at n;exact(t0 L X B n).elim
  ·by_cases X:L=f
   ·rw[kc A]at B;rw[ll X]at n;exact(t0 i A n B).elim
   ·rw[kc A]at B;rw[kc X]at n;exact h.inj i L g B n
 ·rcases yn I with e|⟨_,e⟩
  ·obtain⟨j,d,m,_,_⟩:=xh t e;obtain⟨c0,A0⟩:=Al hO m;obtain⟨a0,cs,p1,p2,p3⟩:=Dv hO A0;have F:=(f1 i j m).2;have D:=(f1 a0 j p1).2;rw[F]at D;injection D with D;subst D
   exact dV (h.ko i cs p2)
  ·obtain⟨u,hu,_⟩:=jF e;exact dV (h.ko i u hu)
 ·have o:look i (bi l d0 (bi f b0 s.r))=some a:=I;rw[cq]at o;split at o
  ·rename_i e;subst e;exact jG _ _
  rw[cq]at o;split at o
  ·rename_i e;subst e;exact dV (h.kr i ar hr)
  ·exact dV (h.kr i a o)
 ·rcases yn I with e|⟨J,e⟩
  ·obtain⟨j,d,m,W,q3⟩:=xh t e;have e9:=(f1 i j m).2;have G:i≠l:=l0 i j (fK U e9);have F:=f2 j i e9;rw[K _ G,F]at V;rw[K _ G,F];obtain⟨g,T0,vs,r1,r2,r3⟩:=S.objs j d (IY v0 W) V;exact⟨g,⟨T0.1,Ib (GI U e9) (fb U (fK U e9)).2.2 T0.2⟩,vs,r1,r2,r3.rn i0 (fun j id e=>(K _ (l0 id j (fK U e))).trans (f2 j id e)) q3⟩
  ·obtain⟨u,hu,rfl⟩:=jF e;have A:i≠f:=fun e=>by rw[e,g1]at hu;cases hu
   have G:i≠l:=p0 i (h.ko i u hu);have F:cJ ι E f C i=ι i:=kc A;rw[K _ G,F]at V;rw[K _ G,F];obtain⟨g,T0,vs,r1,r2,r3⟩:=h.objs i u hu V;refine⟨g,T0,vs,r1,(b8 g (h.own i g (by rw[r1];rfl)).2 (fun q hq=>?_)).trans r2,⟨by rw[lK];exact r3.len,r3.one,fun k x v hx hv=>?_⟩⟩
   ·obtain⟨id,D,P⟩:=z hq;have:=h.inj id i g P (by rw[r1];rfl);subst this;have:=kn (fK U D);rw[hρ]at this;rcases ol.1 this with e4|e4
    ·injection e4 with e5 e6;exact A e5
    ·exact Jg t e4 J
   ·obtain⟨y,hy,rfl⟩:=ln hx;exact T (r3.rel k y v hy hv)
 ·have o:look i (bi l d0 (bi f b0 s.r))=some a:=I;rw[cq]at o;split at o
  ·rename_i e;subst e;injection o with o;subst o
   rw[Q];obtain⟨v,xs,m,W,q3,q4,q5⟩:=S.arrs H d0 x0 (by rw[g0];rfl);rw[g0]at m;injection m with m;subst m
   refine⟨R,xs,rfl,W,q3,q4,fun j e hj k c hk=>?_⟩;obtain⟨x,hx,e0⟩:=q5 j e hj k c hk;exact⟨x,hx,.inl ((e0.flat (by omega)).mono (lc _) (fun b _ t=>i0 b t) (fun _ _ _=>rfl) (fun _ _ h=>h))⟩
  rename_i G;rw[cq]at o;split at o
  ·rename_i e;subst e;injection o with o;subst o
   have F:cJ ι E i C i=E C:=ll rfl;rw[K _ G,F]at V;rw[K _ G,F];have k1:=(fb U f0).2.2;obtain⟨v,xs,m,W,q3,q4,q5⟩:=S.arrs C b0 d1 V;refine⟨v,xs,m,W,q3,q4,fun j e hj k c hk=>?_⟩;obtain⟨x,hx,e0⟩:=q5 j e hj k c hk;exact⟨x,hx,.inl ((e0.flat (by omega)).mono (lc _) (fun b _ t=>i0 b t) (fun _ _ _=>rfl) (fun _ _ h=>h))⟩
  ·rename_i A;have F:cJ ι E f C i=ι i:=kc A;rw[K _ G,F]at V;rw[K _ G,F];obtain⟨v,xs,m,W,q3,q4,q5⟩:=h.arrs i a o V;have l1:=(fb U f0).2.1;refine⟨v,xs,m,fO W (fun g B=>b8 g (h.own i g (by rw[m];exact B)).2 (fun q hq=>?_)),q3,q4,fun j e hj k c hk=>?_⟩
   ·obtain⟨id,D,P⟩:=z hq;have:=h.inj id i g P (by rw[m];exact B);subst this;have:=kn (fK U D);rw[hρ]at this;rcases ol.1 this with e4|e4
    ·injection e4 with e5 e6;exact A e5
    ·have:=c1 _ e4;rw[o]at this;cases this
   ·obtain⟨x,hx,e0⟩:=q5 j e hj k c hk;have nb:∀q:Nat,dW≤nm i q:=fun q=>ak5 _ _;have lb:TG<dW:=by decide
    refine⟨x,hx,e0.mono m0 q0 h0 (fun r k0=>?_) (fun r k0=>b8 r (h.jJ k0) (fun q hq=>?_)) (fun h=>h)⟩
    ·exact(K _ (p0 _ (Qa _ _ _))).trans ((kc (fun e=>by have:=nb (j*a.sz+k);omega)).trans k0)
    ·obtain⟨id,D,P⟩:=z hq;have:=h.inj id _ r P (by rw[k0];rfl);have h9:=(fb U (fK U D)).2.1;have:=nb (j*a.sz+k);omega
 ·obtain⟨m,W⟩:=h.pin i v V;have G:i≠l:=p0 i (h.use i v m);refine⟨?_,ph W⟩;have A:i≠f:=fun e=>by rw[e,np]at V;cases V
  exact(K _ G).trans ((kc A).trans m)
 ·simp only[look]at e;split at e
  ·rename_i ej;injection e with e;subst e;subst ej;exact Q.trans g0.symm
  ·exact(K _ (l0 id j (fK U e))).trans (f2 j id e)
def wD(d:Cx)(ι:Env)(w:World)(ρ:hZ)(a:c6)(xs:Array Value):Prop :=
 a.length=xs.size∧∀(i:Nat) v x,a[i]?=some v→xs[i]?=some x→∀N' c,(∀b,N' b→NN d.M ι b)→(∀id j,look id ρ=some j→c j=ι id)→Rel N' w c v x
def jj(f g:Nat):Value:=.func (.func f) #[.pointer (some ⟨g,0,none⟩)] #[]
def nA(s:AS)(o:Oper)(ρ:hZ):Option (FuncId×c6) :=
 match o.op with
 | .call c=>match c.callee with
  | .value a=>match s.ev a,dr s c.args.toList with
   | some (.fn f aS),some l=>match fY ρ l with
    | some l'=>some (f,l'++aS)
    | none=>none
   | _,_=>none
  | _=>none
 | _=>none
def E8(s:AS)(o:Oper)(ρ:hZ):Option (Value×c6) :=
 match o.op with
 | .call c=>match c.callee with
  | .value a=>match s.ev a,dr s c.args.toList with
   | some (.vv x),some l=>match fY ρ l with
    | some l'=>some (x,l')
    | none=>none
   | _,_=>none
  | _=>none
 | _=>none
section
variable{d:Cx}{s:AS}{a:Act}{w:World}{ι:Env}
theorem Qc(e:aV d s a w ι){l l'}{xs:Array Operand}{ρ}(b:dr s xs.toList=some l)(c:fY ρ l=some l'):wD d ι w ρ l' (xs.map a.eval):=by
 obtain⟨k,m⟩:=li e b;refine⟨by grind[sM],fun i v x g h N' n f j=>?_⟩
 grind[uR,AN]
theorem B7(A:aV d s a w ι){o:Oper}{ρ:hZ}{g:FuncId}{e:c6}(h:nA s o ρ=some (g,e))(p:cK d.P g=true):
  ∃xs:Array Value,(execOp a.eval o).run d.P w=.ok (.enter g xs) w∧wD d ι w ρ e xs:=by
 unfold nA at h;split at h
 case h_2=>cases h
 rename_i c r;split at h
 case h_2=>cases h
 rename_i L j;split at h
 case h_2=>cases h
 rename_i f aS l F G;split at h
 case h_2=>cases h
 rename_i l' q;injection h with h;injection h with B C;subst B;subst C
 obtain⟨M,t,E,n⟩:=kT A r j F p;obtain⟨p1,J⟩:=Qc A G q;refine⟨_,t,by simp at p1⊢;omega,fun i v x m k N' K u I=>?_⟩;by_cases z:i<l'.length
 ·rw[Db z]at m;rw[Dz (by rw[←p1];exact z)]at k;exact J i v x m k N' K u I
 ·rw[Dy (by omega)]at m;rw[akb (by rw[←p1];omega)]at k;rw[←p1]at k;exact(n _ v x m (by simpa using k)).mono (lc _) (fun b _ D=>u b D) (fun _ _ _=>rfl) (fun id y H=>by cases H)
theorem ajm(u:aV d s a w ι){o:Oper}{ρ:hZ}{f g j id:Nat}{b:c6}(h:E8 s o ρ=some (jj f g,b))(p:cK d.P f=true)(H:look id ρ=some j)(F:ι id=some (.pointer (some ⟨g,0,none⟩))):
  ∃xs:Array Value,(execOp a.eval o).run d.P w=.ok (.enter f xs) w∧wD d ι w ρ (.ptr j 0::b) xs:=by
 unfold E8 at h;split at h
 case h_2=>cases h
 rename_i c r;split at h
 case h_2=>cases h
 rename_i B m;split at h
 case h_2=>cases h
 rename_i x l E G;split at h
 case h_2=>cases h
 rename_i l' q;injection h with h;injection h with z A;subst z;subst A
 obtain⟨p1,I⟩:=Qc u G q;have t:=u.ev E;generalize D:a.eval B=X at t;cases t with
 | vv _ _ K =>
  refine⟨#[.pointer (some ⟨g,0,none⟩)]++c.args.map a.eval,?_,by simp at p1⊢;omega,fun i v x k n N' J C y=>?_⟩
  ·unfold execOp;simp only[r,resolve,m,D,jj,Deferred.ofValue,u3,S2,u6,invoke];rw[Kf p];simp
  ·cases i with
   | zero =>
    simp only[List.getElem?_cons_zero]at k;injection k with k;subst k
    rw[Dz (by simp)]at n;have e:some (Value.pointer (some ⟨g,0,none⟩))=some x:=n;injection e with e;subst e
    exact .ptr _ _ _ _ ((y id j H).trans F)
   | succ i =>
    simp only[akT]at k;rw[akb (by simp)]at n;exact I i v x k (by simpa using n) N' J C y
end
def sa(ρ:hZ):AV→Option AV
 | .tup l=>match fY ρ l with|some l'=>some (.tup l')|none=>none
 | v=>eu ρ v
theorem abj{N N'}{w w'}{ι ι'}{ρ}(G:∀{v v':AV} {x:Value},Rel N w ι v x→eu ρ v=some v'→Rel N' w' ι' v' x){v v'}{x}(h:Rel N w ι v x)(e:sa ρ v=some v'):Rel N' w' ι' v' x:=by
 unfold sa at e;split at e
 ·split at e
  ·injection e with e;subst e
   cases h with
   | tup _ _ vs a d =>
    refine .tup _ _ vs (by grind[sM]) (fun i c y b f=>?_)
    grind[uR]
  grind
 grind
class GS where
 g:Nat
class SG [GS] (w0:aC):Prop where
 pv:w0.pv 440001=some (.pointer (some ⟨GS.g,0,none⟩))
def SU:ed:=[440009,440001,1440001]
def eP[GS](P:Program)(f:FuncId)(b:c6)(O:iF)(ar:cg)(Q:AV→AS→Prop):Prop :=
 ∀M w c xs,c 440001=some (.pointer (some ⟨GS.g,0,none⟩))→HS M (lR w c O) w c ⟨[],O,[(440009,ar)],SU⟩→b.length=xs.size→(∀(i:Nat) a x,b[i]?=some a→xs[i]?=some x→Rel (NN M c) w c a x)→Calls P f xs w (bP M (lR w c O) Q)
theorem jK[GS]{P:Program}{f:FuncId}{i:Func}{c:Code}{b:c6}{O:iF}{ar:cg}{Q:AV→AS→Prop}(s:P.funcs[f]?=some i)(r:i.body=some c)(n:Nat)(z:i.ntmps=n)(y:b.length≤n)
  (h:∀M p [SG p],VE ⟨P,n,M,p⟩ (bodyPost P i (bP M p Q)) [.c c] .normal ⟨idxs 0 b,O,[(440009,ar)],SU⟩) (q:(look 440001 O).isSome=true:=by kernel_rfl):eP P f b O ar Q:=by
 intro M w j xs t d o x;obtain⟨c0,l⟩:=yk.1 q;haveI:SG (lR w j O):=⟨by show(match look 440001 O with|some _=>j 440001|none=>none)=_;rw[l];exact t⟩;refine alg s r ?_;refine amd (h M (lR w j O) { tmps:=xs++Array.replicate (i.ntmps-xs.size) undef,defers:=[] } w j ?_) (fun e a w' u=>?_)
 ·refine⟨⟨d.below,d.old,d.use,d.own,d.inj,d.ko,d.kr,d.objs,d.arrs,d.pin⟩,rfl,?_,fun k v m=>?_⟩
  ·simp;omega
  ·rw[rx,ll (v9 _),akm]at m;have g:k<xs.size:=by rw[←o];exact(jt.1 m).1
   refine⟨xs[k],?_,x k v _ m (la g)⟩;simp only[];rw[Dz g,la g]
 ·cases e<;>exact u
def bT(b a:Nat):hZ:=[(a,440009),(b,440001)]
def jL(s:AS)(b a:Nat):Bool :=
 gO (bT b a) (cc (bT b a))&&(zN SU [(b,440001)] 440009&&((match s.u.contains (de a) with|true=>false|false=>true)&&((match look a s.o with|none=>true|some _=>false) &&
  (match look b s.r with|none=>true|some _=>false))))
def CE(s:AS)(d c b a:Nat):Bool:=(match has s.u b with|true=>false|false=>true)&&((match look b (bT d c) with|none=>true|some _=>false)&&((match Nat.beq a 440009 with|true=>false|false=>true)&&((match look a (cc (bT d c)) with|none=>true|some _=>false)&&Nat.ble (a+1) TG)))
theorem aia{s}{d c b a}(h:CE s d c b a=true):has s.u b=false∧look b (bT d c)=none∧a≠440009∧look a (cc (bT d c))=none∧a<TG:=by
 simp only[CE,iO]at h;obtain⟨g,i,j,k,f⟩:=h;refine⟨?_,?_,fun e=>?_,?_,j3 f⟩
 ·grind
 ·grind
 ·simp_all
 grind
section
variable{c:Cx}{Q:Exit→Act→World→Prop}{m:dt}{s:AS}{d:Array Oper}{f:Func}{p:ed}{i:Nat}
theorem NO[GS]{a:Act}{w:World}{ι:Env}(B:aV c s a w ι)(f d:Nat){g:FuncId}{h:c6}{V1 V2:AV}{O O1 X:iF}{ar m:cg}(hc:eP c.P g h O ar (fun v Y=>v=V1∧cB Y.o O1∧look 440009 Y.r=some m))
  (hg:ι f=some (.pointer (some ⟨GS.g,0,none⟩))) {o:Oper}
  (A:∃xs:Array Value,(execOp a.eval o).run c.P w=.ok (.enter g xs) w∧wD c ι w (bT f d) h xs)
  (hO:fP (bT f d) s.o [(f,440001)]=some O) (E:look d s.r=some ar) (I:d7 (cc (bT f d)) O1 [(f,440001)]=some X) (U:eu (cc (bT f d)) V1=some V2)
  (hd:cQ c.n o.dst=true) (t:jL s f d=true) {Kn:Act→World→Prop} {Q:Exit→Act→World→Prop} (k:∀x w' Z,aV c ((jV d m X s).put o.dst V2) (a.put o.dst x) w' (cJ ι Z d 440009)→Kn (a.put o.dst x) w'):o.wp c.P a w Kn Q:=by
 simp only[jL,iO]at t;obtain⟨q,k2,k3,k4,k5⟩:=t;have L:s.u.contains (de d)=false:=by
  cases z:s.u.contains (de d) with
  | true=>rw[z]at k3;cases k3
  | false=>rfl
 have T:look d s.o=none:=by
  cases z:look d s.o with
  | some _=>rw[z]at k4;cases k4
  | none=>rfl
 have M:∀p∈[(f,440001)],look p.1 s.r=none:=fun p N=>by
  rw[aix.1 N];cases z:look f s.r with
  | some _=>rw[z]at k5;cases k5
  | none=>rfl
 have D:cn (cc (bT f d)) ι 440001=ι f:=kR (fb q (by
  show look f [(d,440009),(f,440001)]=some 440001;have:f≠d:=fun e=>by
   have h1:=(fb (id:=d) (j:=440009) q (by simp[bT,look])).1;have r:=q;simp only[gO,iO,n5]at r;have F:=(r.1 (f,440001) (by simp[bT])).1;have h3:=fK q (pd F);rw[e]at h3;simp[bT,look]at h3
  simp[look,this])).1
 unfold Oper.wp;obtain⟨xs,R,V,W⟩:=A;rw[R,ahH];have hN:∀b,NN (fun b=>NN c.M ι b∧∀i,br (cn (cc (bT f d)) ι i)≠some b) (cn (cc (bT f d)) ι) b→NN c.M ι b:=fun b l=>by
  rcases l with l|⟨j,l⟩
  ·exact l.1
  ·cases J:cn (cc (bT f d)) ι j with
   | none=>rw[J]at l;cases l
   | some y=>obtain⟨id,_,F⟩:=jU J;exact .inr ⟨id,by rw[F];rw[J]at l;exact l⟩
 have n:∀(i:Nat) (a:AV) (x:Value),h[i]?=some a→xs[i]?=some x→Rel (NN (fun b=>NN c.M ι b∧∀i,br (cn (cc (bT f d)) ι i)≠some b) (cn (cc (bT f d)) ι)) w (cn (cc (bT f d)) ι) a x:=fun i v x hv hx =>
  W i v x hv hx _ _ hN (fun id j e=>kR (fb q e).1)
 have H:∀p∈[(f,440001)],∃y,cn (cc (bT f d)) ι p.2=some y:=fun p N=>by
  rw[aix.1 N];exact⟨_,D.trans hg⟩
 refine (hc _ w _ xs (D.trans hg) (B.hs.Fa rfl q hO E k2) V n).mono ?_
 rintro e w' ⟨x,v,Y,Z,rfl,⟨rfl,G,P⟩,K,S⟩
 obtain⟨g1,g2,g3⟩:=B.hs.Q0 rfl q hO E L T M H K G P I;have C:aV c (jV d m X s) a w' (cJ ι Z d 440009):=⟨g1,B.dfr,B.n,fun k v hk=>by
  obtain⟨u,hu,rfl⟩:=nL hk;obtain⟨y,hy,E⟩:=B.tmp k u hu;exact⟨y,hy,g2 E⟩⟩
 exact k _ _ _ (C.put (f8 hd) (g3 S U))
theorem G1[GS]{a}{w}{ι}(G:aV c s a w ι) b e{g}{j}{V1}{O t}{ar l}(C:eP c.P g j O ar (fun v y=>v=V1∧cB y.o t∧look 440009 y.r=some l))
  (E:ι b=some (.pointer (some ⟨GS.g,0,none⟩)))
  (q:∃xs:Array Value,(execOp a.eval { aW f p i with guard:=none }).run c.P w=.ok (.enter g xs) w∧wD c ι w (bT b e) j xs)
  (k:OT c Q m d (aR f p (i+1)) ((jV e l ((d7 (cc (bT b e)) t [(b,440001)]).getD []) s).put (aW f p i).dst ((eu (cc (bT b e)) V1).getD .any)))
  (A:fP (bT b e) s.o [(b,440001)]=some O) (F:look e s.r=some ar) (B:(d7 (cc (bT b e)) t [(b,440001)]).isSome=true) (H:(eu (cc (bT b e)) V1).isSome=true)
  (D:cQ c.n (aW f p i).dst=true) (u:jL s b e=true):wpList c.P d (Kw c.P Q m) ({ aW f p i with guard:=none }::aR f p (i+1)) a w:=by
 refine abM rfl fun K z=>?_;obtain⟨I,n⟩:=yk.1 B;obtain⟨V2,r⟩:=yk.1 H;rw[n,r]at k;exact NO (o:={ aW f p i with guard:=none }) G b e C E q A F n r D u (fun x w' J h=>z _ _ (k _ _ _ h))
theorem ahX[GS]{a:Act}{w:World}{ι:Env}(L:aV c s a w ι)(l n o r:Nat){g:FuncId}{q:c6}{V1:AV}{O U:iF}{ar z A:cg}(hc:eP c.P g q O ar (fun v T=>v=V1∧cB T.o U∧look 440009 T.r=some z∧look r T.r=some A))(G:∀(N:Nat→Prop) w ι x,Rel N w ι V1 x→∃y,ι r=some y)
  (hg:ι l=some (.pointer (some ⟨GS.g,0,none⟩)))
  (I:∃xs:Array Value,(execOp a.eval { aW f p i with guard:=none }).run c.P w=.ok (.enter g xs) w∧wD c ι w (bT l n) q xs)
  (k:OT c Q m d (aR f p (i+1)) ((BG n z ((d7 (cc (bT l n)) U [(l,440001)]).getD []) o A s).put (aW f p i).dst ((sa ((r,o)::cc (bT l n)) V1).getD .any)))
  (hO:fP (bT l n) s.o [(l,440001)]=some O) (S:look n s.r=some ar) (t:(d7 (cc (bT l n)) U [(l,440001)]).isSome=true) (hv:(sa ((r,o)::cc (bT l n)) V1).isSome=true)
  (hd:cQ c.n (aW f p i).dst=true) (F:jL s l n=true) (hI:CE s l n o r=true):wpList c.P d (Kw c.P Q m) ({ aW f p i with guard:=none }::aR f p (i+1)) a w:=by
 refine abM rfl fun K hK=>?_;obtain⟨o2,D⟩:=yk.1 t;obtain⟨V2,R⟩:=yk.1 hv;rw[D,R]at k;simp only[RX]at k;simp only[jL,iO]at F;obtain⟨C,k2,k3,k4,k5⟩:=F;have a0:s.u.contains (de n)=false:=by
  cases H:s.u.contains (de n) with
  | true=>rw[H]at k3;cases k3
  | false=>rfl
 have f0:look n s.o=none:=by
  cases H:look n s.o with
  | some _=>rw[H]at k4;cases k4
  | none=>rfl
 have b0:∀p∈[(l,440001)],look p.1 s.r=none:=fun p hp=>by
  rw[aix.1 hp];cases H:look l s.r with
  | some _=>rw[H]at k5;cases k5
  | none=>rfl
 have P:cn (cc (bT l n)) ι 440001=ι l:=kR (fb C (by
  show look l [(n,440009),(l,440001)]=some 440001;have:l≠n:=fun e=>by
   have h1:=(fb (id:=n) (j:=440009) C (by simp[bT,look])).1;have E:=C;simp only[gO,iO,n5]at E;have V:=(E.1 (l,440001) (by simp[bT])).1;have h3:=fK C (pd V);rw[e]at h3;simp[bT,look]at h3
  simp[look,this])).1
 unfold Oper.wp;obtain⟨xs,e0,h0,i0⟩:=I;rw[e0,ahH];have hN:∀b,NN (fun b=>NN c.M ι b∧∀i,br (cn (cc (bT l n)) ι i)≠some b) (cn (cc (bT l n)) ι) b→NN c.M ι b:=fun b t=>by
  rcases t with t|⟨j,t⟩
  ·exact t.1
  ·cases Y:cn (cc (bT l n)) ι j with
   | none=>rw[Y]at t;cases t
   | some y=>obtain⟨id,_,V⟩:=jU Y;exact .inr ⟨id,by rw[V];rw[Y]at t;exact t⟩
 have B:∀(i:Nat) (a:AV) (x:Value),q[i]?=some a→xs[i]?=some x→Rel (NN (fun b=>NN c.M ι b∧∀i,br (cn (cc (bT l n)) ι i)≠some b) (cn (cc (bT l n)) ι)) w (cn (cc (bT l n)) ι) a x:=fun i v x hv hx =>
  i0 i v x hv hx _ _ hN (fun id j e=>kR (fb C e).1)
 have X:∀p∈[(l,440001)],∃y,cn (cc (bT l n)) ι p.2=some y:=fun p hp=>by
  rw[aix.1 hp];exact⟨_,P.trans hg⟩
 refine (hc _ w _ xs (P.trans hg) (L.hs.Fa rfl C hO S k2) h0 B).mono ?_
 rintro e w' ⟨x,v,T,ι1,rfl,⟨rfl,W,c0,d0⟩,Z,J⟩
 obtain⟨v3,g0⟩:=G _ _ _ _ J;obtain⟨i1,i2,i3,i4,i5⟩:=aia hI;obtain⟨g1,g2,g3⟩:=L.hs.VM rfl C hO S a0 f0 b0 X Z W c0 D i1 i2 i3 i4 i5 g0 d0;have M:aV c (BG n z o2 o A s) a w' (ext (cJ ι ι1 n 440009) o v3):=⟨g1,L.dfr,L.n,fun k v hk=>by
  obtain⟨u,hu,rfl⟩:=nL hk;obtain⟨y,hy,S⟩:=L.tmp k u hu;exact⟨y,hy,g2 S⟩⟩
 exact hK _ _ (k _ _ _ (M.put (f8 hd) (abj (fun h e=>g3 h e) J R)))
theorem qa[GS][SG c.w0]{g}{b}{V1}{O h}{ar e}(u:eP c.P g b O ar (fun v o=>v=V1∧cB o.o h∧look 440009 o.r=some e))
  (k:OT c Q m d (aR f p (i+1)) ((jV 440009 e ((d7 (cc (bT 440001 440009)) h [(440001,440001)]).getD []) s).put (aW f p i).dst ((eu (cc (bT 440001 440009)) V1).getD .any)))
  (j:cK c.P g=true:=by kernel_rfl) (z:aR f p i=aW f p i::aR f p (i+1):=by kernel_rfl) (y:cE d s (aW f p i)=true:=by kernel_rfl) (q:nA s { aW f p i with guard:=none } (bT 440001 440009)=some (g,b):=by kernel_rfl)
  (r:fP (bT 440001 440009) s.o [(440001,440001)]=some O:=by kernel_rfl) (A:look 440009 s.r=some ar:=by kernel_rfl) (t:(d7 (cc (bT 440001 440009)) h [(440001,440001)]).isSome=true:=by kernel_rfl) (B:(eu (cc (bT 440001 440009)) V1).isSome=true:=by kernel_rfl)
  (x:cQ c.n (aW f p i).dst=true:=by kernel_rfl) (l:jL s 440001 440009=true:=by kernel_rfl):OT c Q m d (aR f p i) s:=by
 rw[z];exact eZ _ y fun a w ι n=>G1 n 440001 440009 u ((n.hs.pin _ _ SG.pv).1) (B7 n q j) k r A t B x l
theorem SA[GS][SG c.w0] e{b}{g}{h}{V1}{O o}{ar j l}(D:eP c.P g h O ar (fun v u=>v=V1∧cB u.o o∧look 440009 u.r=some j∧look b u.r=some l))(n:∀(N:Nat→Prop) w ι x,Rel N w ι V1 x→∃y,ι b=some y)
  (k:OT c Q m d (aR f p (i+1)) ((BG 440009 j ((d7 (cc (bT 440001 440009)) o [(440001,440001)]).getD []) e l s).put (aW f p i).dst ((sa ((b,e)::cc (bT 440001 440009)) V1).getD .any)))
  (q:cK c.P g=true:=by kernel_rfl) (G:aR f p i=aW f p i::aR f p (i+1):=by kernel_rfl) (F:cE d s (aW f p i)=true:=by kernel_rfl) (z:nA s { aW f p i with guard:=none } (bT 440001 440009)=some (g,h):=by kernel_rfl)
  (B:fP (bT 440001 440009) s.o [(440001,440001)]=some O:=by kernel_rfl) (H:look 440009 s.r=some ar:=by kernel_rfl) (C:(d7 (cc (bT 440001 440009)) o [(440001,440001)]).isSome=true:=by kernel_rfl) (I:(sa ((b,e)::cc (bT 440001 440009)) V1).isSome=true:=by kernel_rfl)
  (E:cQ c.n (aW f p i).dst=true:=by kernel_rfl) (r:jL s 440001 440009=true:=by kernel_rfl) (A:CE s 440001 440009 e b=true:=by kernel_rfl):OT c Q m d (aR f p i) s:=by
 rw[G];exact eZ _ F fun a w ι t=>ahX t 440001 440009 e b D n ((t.hs.pin _ _ SG.pv).1) (B7 t z q) k B H C I E r A
theorem Sl[GS][SG c.w0]{g}{b}{V1}{O j}{ar e}(u:eP c.P g (.ptr 440001 0::b) O ar (fun v o=>v=V1∧cB o.o j∧look 440009 o.r=some e))
  (k:OT c Q m d (aR f p (i+1)) ((jV 440009 e ((d7 (cc (bT 440001 440009)) j [(440001,440001)]).getD []) s).put (aW f p i).dst ((eu (cc (bT 440001 440009)) V1).getD .any)))
  (l:cK c.P g=true:=by kernel_rfl) (z:aR f p i=aW f p i::aR f p (i+1):=by kernel_rfl) (y:cE d s (aW f p i)=true:=by kernel_rfl) (q:E8 s { aW f p i with guard:=none } (bT 440001 440009)=some (jj g GS.g,b):=by kernel_rfl)
  (r:fP (bT 440001 440009) s.o [(440001,440001)]=some O:=by kernel_rfl) (A:look 440009 s.r=some ar:=by kernel_rfl) (t:(d7 (cc (bT 440001 440009)) j [(440001,440001)]).isSome=true:=by kernel_rfl) (B:(eu (cc (bT 440001 440009)) V1).isSome=true:=by kernel_rfl)
  (x:cQ c.n (aW f p i).dst=true:=by kernel_rfl) (n:jL s 440001 440009=true:=by kernel_rfl):OT c Q m d (aR f p i) s:=by
 rw[z];exact eZ _ y fun a w ι h=>G1 h 440001 440009 u ((h.hs.pin _ _ SG.pv).1) (ajm h q l (by rfl) ((h.hs.pin _ _ SG.pv).1)) k r A t B x n
theorem Ba(h n:Nat){g:FuncId}{o:c6}{V1:AV}{O B:iF}{ar t:cg}(V:∀ [GS],eP c.P g o O ar (fun v N=>v=V1∧cB N.o B∧look 440009 N.r=some t))
  (k:OT c Q m d (aR f p (i+1)) ((jV n t ((d7 (cc (bT h n)) B [(h,440001)]).getD []) s).put (aW f p i).dst ((eu (cc (bT h n)) V1).getD .any)))
  (D:cK c.P g=true:=by kernel_rfl) (Y:aR f p i=aW f p i::aR f p (i+1):=by kernel_rfl) (X:cE d s (aW f p i)=true:=by kernel_rfl) (C:nA s { aW f p i with guard:=none } (bT h n)=some (g,o):=by kernel_rfl)
  (A:fP (bT h n) s.o [(h,440001)]=some O:=by kernel_rfl) (hr:look n s.r=some ar:=by kernel_rfl) (r:(d7 (cc (bT h n)) B [(h,440001)]).isSome=true:=by kernel_rfl) (hv:(eu (cc (bT h n)) V1).isSome=true:=by kernel_rfl)
  (W:cQ c.n (aW f p i).dst=true:=by kernel_rfl) (u:jL s h n=true:=by kernel_rfl) (Z:o.any (yj 440001)=true:=by kernel_rfl):OT c Q m d (aR f p i) s:=by
 rw[Y];refine eZ _ X fun a w ι H=>?_;obtain⟨xs,q1,M,q3⟩:=B7 H C D;have K:=u;simp only[jL,iO]at K;have U:∀b,NN (fun b=>NN c.M ι b∧∀i,br (cn (cc (bT h n)) ι i)≠some b) (cn (cc (bT h n)) ι) b→NN c.M ι b:=fun b r=>by
  rcases r with r|⟨j,r⟩
  ·exact r.1
  ·cases F:cn (cc (bT h n)) ι j with
   | none=>rw[F]at r;cases r
   | some y=>obtain⟨id,_,z⟩:=jU F;exact .inr ⟨id,by rw[z];rw[F]at r;exact r⟩
 obtain⟨v,I,J⟩:=ahD.1 Z;obtain⟨q,L⟩:=ak1.1 I;have G:q<xs.size:=by rw[←M];exact(jt.1 L).1
 obtain⟨y,hy⟩:=Vp J (q3 q v _ L (la G) _ _ U (fun id j e=>kR (fb K.1 e).1));obtain⟨id,x,P⟩:=jU hy;have R:id=h:=by
  have z:look 440001 (cc (bT h n))=some h:=rfl;rw[z]at x;injection x with x;exact x.symm
 subst R;obtain⟨cs,E⟩:∃cs,look id s.o=some cs:=by
  unfold fP at A;split at A
  ·rename_i cs l C z;exact⟨cs,C⟩
  ·cases A
 obtain⟨T,_,_,S,_,_⟩:=H.hs.objs id cs E (by rw[P];rfl)
 letI:GS:=⟨T⟩
 exact G1 H id n V S ⟨xs,q1,M,q3⟩ k A hr r hv W u
end
def qQ(b a:Nat)(d:Option Tmp)(c:cg)(e:iF)(V1:AV)(s:AS):AS:=(jV a c ((d7 (cc (bT b a)) e [(b,440001)]).getD []) s).put d ((eu (cc (bT b a)) V1).getD .any)
def Ee(d:Option Tmp)(a:cg)(b:iF)(V1:AV)(s:AS):AS:=qQ 440001 440009 d a b V1 s
def JL(b a:Nat)(s:AS):Bool:=match look b s.o with
 | some (.ref i::_)=>Nat.beq i a
 | _=>false
theorem acR[GS](b f:Nat){P:Program}{n:Nat}{ops:Array Oper}{s:AS}{o:Oper}{J:Nat}{g:FuncId}{k:c6}{V1:AV}{O I:iF}{ar D:cg}(hc:eP P g k O ar (fun v s1=>v=V1∧cB s1.o I∧look 440009 s1.r=some D))
  (N:look J s.t=some (.lk b (.pointer (some ⟨GS.g,0,none⟩)))) (S:∀(j:Nat) (o':Oper),ops[j]?=some o'→o'.dst≠some J) (C:nA s o (bT b f)=some (g,k)) (M:cK P g=true)
  (hO:fP (bT b f) s.o [(b,440001)]=some O) (hr:look f s.r=some ar) (hb:(d7 (cc (bT b f)) I [(b,440001)]).isSome=true) (hv:(eu (cc (bT b f)) V1).isSome=true)
  (hd:cQ n o.dst=true) (U:jL s b f=true) (H:JL b f s=true):Ie P n ops s (qQ b f o.dst D I V1 s) o:=by
 refine⟨J,b,_,N,S,fun cx hP hn fl a w ι V Z F Kn Q hk=>?_⟩;subst hP;subst hn;obtain⟨o2,l⟩:=yk.1 hb;obtain⟨V2,z⟩:=yk.1 hv;have L:nA (s.tt (cu fl s.t)) o (bT b f)=some (g,k):=by
  unfold nA at C⊢;split at C
  case h_2=>cases C
  rename_i cl p;split at C
  case h_2=>cases C
  rename_i K m;have W:(s.tt (cu fl s.t)).ev K=s.ev K:=by
   cases K with
   | tmp t =>
    show look t (cu _ _)=look t _;rw[eX,ll (F (.tmp t) t (by simp[p,Op.operands,Call.operands,m]) rfl)]
   | const v=>rfl
   | func g=>rfl
   | global g=>rfl
  have X:dr (s.tt (cu fl s.t)) cl.args.toList=dr s cl.args.toList:=qO (fun x hx=>by
   cases x with
   | tmp t =>
    show look t (cu _ _)=look t _;rw[eX,ll (F (.tmp t) t (by simp[p,Op.operands,Call.operands,m];exact .inr (In.1 hx)) rfl)]
   | const v=>rfl
   | func g=>rfl
   | global g=>rfl)
  simp only[p,m,W,X];exact C
 refine NO V b f hc Z (B7 V L M) hO hr l z hd U (fun x w' ι1 G=>hk _ _ _ _ (fun id a0 B=>?_) ?_ ?_ ?_ (fun t v i u=>?_) G)
 ·unfold cJ;by_cases e:id=f
  ·exfalso;unfold JL at H;split at H
   case h_2=>cases H
   rename_i q r hq;obtain⟨g0,T,vs,W,X,Y⟩:=V.hs.objs b _ hq (by rw[Z];rfl);have R:0<vs.toList.length:=by rw[←Y.len];simp
   have:=Y.rel 0 _ _ rfl (kb R);rw[n3 H]at this;generalize vs.toList[0]=y at this;cases this with
   | ref _ _ A n c h=>rw[e,h]at B;cases B
  ·rw[kc e];exact B
 ·unfold qQ;rw[l,z];cases o.dst<;>rfl
 ·unfold qQ;rw[l,z];cases o.dst<;>rfl
 ·unfold qQ;rw[l,z];cases o.dst<;>rfl
 ·unfold qQ at u;rw[l,z]at u;simp only[RX]at u;cases E:o.dst with
  | none =>
   rw[E]at u i;rcases i with i|i
   ·show look t (dA _ (cu _ _))=_;rw[tP,eX,ll i];exact u
   ·cases i
  | some d =>
   rw[E]at u i;simp only[AS.put,jV,cq]at u⊢;by_cases e:t=d
   ·rw[ll e]at u⊢;exact u
   ·rw[kc e]at u⊢;rcases i with i|i
    ·show look t (dA _ (cu _ _))=_;rw[tP,eX,ll i];exact u
    ·injection i with i;exact(e i).elim
section
variable{P:Program}{n:Nat}{c:AS}{b:Array Oper}{K:Nat}{a:g6}{o:Oper}
theorem Kc[GS](m r:Nat){g:FuncId}{d:c6}{V1:AV}{O f:iF}{ar e:cg}(y:eP P g d O ar (fun v s=>v=V1∧cB s.o f∧look 440009 s.r=some e))
  (i:cK P g=true:=by kernel_rfl) (A:Ee o.dst e f V1 (nth a m)=nth a (m+1):=by kernel_rfl) (l:look r (nth a m).t=some (.lk 440001 (.pointer (some ⟨GS.g,0,none⟩))):=by kernel_rfl) (p:B1 r b.toList=true:=by kernel_rfl) (k:o.guard.isNone=true:=by kernel_rfl)
  (t:nA (nth a m) o (bT 440001 440009)=some (g,d):=by kernel_rfl)
  (w:fP (bT 440001 440009) (nth a m).o [(440001,440001)]=some O:=by kernel_rfl) (C:look 440009 (nth a m).r=some ar:=by kernel_rfl) (x:(d7 (cc (bT 440001 440009)) f [(440001,440001)]).isSome=true:=by kernel_rfl) (D:(eu (cc (bT 440001 440009)) V1).isSome=true:=by kernel_rfl)
  (z:cQ n o.dst=true:=by kernel_rfl) (q:jL (nth a m) 440001 440009=true:=by kernel_rfl) (u:JL 440001 440009 (nth a m)=true:=by kernel_rfl):fC P n c b K a o (.s (m+1)):=by
 have h:=acR 440001 440009 (ops:=b) y l (fun j E B=>MC p E (In.2 (Array.mem_of_getElem? B))) t i w C x D z q u;rw[show qQ 440001 440009 o.dst e f V1 (nth a m)=nth a (m+1) from A]at h;exact⟨by rw[show o.guard=none by simpa using k];rfl,.inr h⟩
end
end Go.Proofs.YtocgkfoifehcbaaGreat

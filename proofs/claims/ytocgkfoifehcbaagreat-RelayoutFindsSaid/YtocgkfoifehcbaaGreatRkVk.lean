/- Calls that are lent variables and one slice, with a result of which a slice is the callee's own; calls that are lent the state of layer 22. No program in sight. -/
import Derived.Test.YtocgkfoifehcbaaGreatRkVv
namespace Go.Proofs.YtocgkfoifehcbaaGreat
set_option linter.all false
open Go.RowKit
def ags:=@List.mem_singleton
def al5:=@Array.mem_of_getElem?
def Ew(a:Nat)(c:co)(e:io)(b:Nat)(d:co)(s:AS):AS:=⟨dF a s.t,xI e (fK a s.o),bm b d (bm a c s.r),b::s.u⟩
theorem HS.ad1{M:Nat→Prop}{w0:aA}{w w':World}{ι E:Env}{s s1:AS}(h:HS M w0 w ι s){ρo ρ N:hH}{f C:Nat}{ar b0:co}{O O1 o2:io}(hρ:ρ=(f,C)::ρo)(U:ik ρ N=true)(hO:fz ρ s.o ρo=some O)(hr:look f s.r=some ar)
  (a1:s.u.contains (da f)=false) (j1:look f s.o=none) (g1:∀p∈ρo,look p.1 s.r=none) (y0:∀p∈ρo,∃y,cp N ι p.2=some y)
  (S:HS (fun b=>NN M ι b∧∀i,bz (cp N ι i)≠some b) (lB w (cp N ι) O) w' E s1) (v0:cy s1.o O1) (i1:look C s1.r=some b0) (t:dS N O1 ρo=some o2)
  {l H:Nat} {d0:co} {R:Value} (s0:has s.u l=false) (b1:look l ρ=none) (c1:H≠C) (d1:look H N=none) (l1:H<TG) (g0:E H=some R) (x0:look H s1.r=some d0) :
  HS M w0 w' (ext (cE ι E f C) l R) (Ew f b0 o2 l d0 s)∧(∀{v:AV} {x:Value},Rel (NN M ι) w ι v x→Rel (NN M (ext (cE ι E f C) l R)) w' (ext (cE ι E f C) l R) (v.cY f) x) ∧
   (∀{v v':AV} {x:Value},Rel (NN (fun b=>NN M ι b∧∀i,bz (cp N ι i)≠some b) E) w' E v x→ec ((H,l)::N) v=some v'→Rel (NN M (ext (cE ι E f C) l R)) w' (ext (cE ι E f C) l R) v' x):=by
 have f0:look f ρ=some C:=by rw[hρ];simp[look]
 have K:∀i,i≠l→ext (cE ι E f C) l R i=cE ι E f C i:=fun i I=>bS _ _ I;have Q:ext (cE ι E f C) l R l=some R:=cI _ _ _;have l0:∀id j,look id ρ=some j→id≠l:=fun id j e e'=>by rw[e',b1]at e;cases e
 have k1:f≠l:=l0 _ _ f0;have S0:=h.free s0;have p0:∀i,has s.u i=true→i≠l:=fun i I e=>by rw[e,s0]at I;cases I
 have f1:∀id j,(id,j)∈ρo→E j=ι id∧look j N=some id:=fun id j hm=>by
  have F:look j N=some id:=by
   have r0:=U;simp only[ik,iN,ne]at r0;exact qa (r0.1 (id,j) (by rw[hρ];exact ol _ hm)).1
  obtain⟨y,hy⟩:=y0 _ hm;obtain⟨c,hc⟩:=yd hO hm;have V:=(S.pin j y (by show(match look j O with|some _=>cp N ι j|none=>none)=some y;rw[hc];exact hy)).1;refine⟨?_,F⟩;rw[V,← kz (ι:=ι) F];exact hy.symm
 have f2:∀j id,look j N=some id→cE ι E f C id=E j:=fun j id e=>by
  have D:=fN U e;unfold cE;by_cases A:id=f
  ·subst A;rw[lc rfl];rw[f0]at D;injection D with D;rw[D]
  ·rw[kb A];have:=jW D;rw[hρ]at this;rcases oR.1 this with P|P
   ·injection P with e4 e5;exact absurd e4 A
   ·exact(f1 id j P).1.symm
 have z:∀{q b},bz (cp N ι q)=some b→∃id,look q N=some id∧bz (ι id)=some b:=fun {q b} hq=>by
  cases he:cp N ι q with
  | none=>rw[he]at hq;cases hq
  | some y=>obtain⟨id,F,D⟩:=jQ he;exact⟨id,F,by rw[D];rw[he]at hq;exact hq⟩
 have o3:∀g,bz (some R)=some g→(w.heap.size≤g∨bz (ι f)=some g)∧g<w'.heap.size∧bz (E C)≠some g:=fun g B=>by
  have o0:bz (E H)=some g:=by rw[g0];exact B
  obtain⟨m,W⟩:=S.own H g o0;refine⟨?_,W,fun e=>c1 (S.inj H C g o0 e)⟩;rcases m with m|⟨q,m⟩
  ·exact .inl m
  ·obtain⟨id,F,D⟩:=z m;have:=jW (fN U F);rw[hρ]at this;rcases oR.1 this with P|P
   ·injection P with e4 e5;rw[e4]at D;exact .inr D
   ·have e9:=(f1 id q P).1;have:=S.inj q H g (by rw[e9];exact D) o0;rw[this,d1]at F;cases F
 have m0:w.heap.size≤w'.heap.size:=S.below.size;have bZ:∀b,b<w.heap.size→(∀i,bz (cp N ι i)≠some b)→w'.heap[b]?=w.heap[b]?:=fun b Z t=>S.below.block b Z (fun⟨i,I⟩=>t i I);have h0:∀b,b<w.heap.size→¬ NN M ι b→w'.heap[b]?=w.heap[b]?:=fun b Z t=>bZ b Z (fun i I=>by
  obtain⟨id,_,e⟩:=z I;exact t (.inr ⟨id,e⟩))
 have i0:∀b,NN M (ext (cE ι E f C) l R) b→NN (fun b=>NN M ι b∧∀i,bz (cp N ι i)≠some b) E b:=fun b t=>by
  rcases t with t|⟨id,t⟩
  ·exact .inl ⟨.inl t,fun i I=>by obtain⟨id,_,e⟩:=z I;exact h.sep t e⟩
  ·by_cases J:id=l
   ·rw[J,Q]at t;exact .inr ⟨H,by rw[g0];exact t⟩
   rw[K _ J]at t;unfold cE at t;by_cases A:id=f
   ·rw[lc A]at t;exact .inr ⟨C,t⟩
   ·rw[kb A]at t;by_cases hl:∃i,bz (cp N ι i)=some b
    ·obtain⟨q,hq⟩:=hl;obtain⟨a0,F,D⟩:=z hq;have:=h.inj a0 id b D t;subst this;have:=f2 q a0 F;unfold cE at this;rw[kb A]at this;exact .inr ⟨q,by rw[←this];exact t⟩
    ·exact .inl ⟨.inr ⟨id,t⟩,fun i I=>hl ⟨i,I⟩⟩
 have q0:∀b,b<w.heap.size→NN M (ext (cE ι E f C) l R) b→NN M ι b:=fun b Z t=>by
  rcases t with t|⟨id,t⟩
  ·exact .inl t
  ·by_cases J:id=l
   ·rw[J,Q]at t;rcases (o3 b t).1 with e|e
    ·exact absurd Z (akq.2 e)
    ·exact .inr ⟨f,e⟩
   rw[K _ J]at t;unfold cE at t;by_cases A:id=f
   ·rw[lc A]at t;rcases (S.own C b t).1 with e|⟨q,e⟩
    ·exact absurd Z (akq.2 e)
    ·obtain⟨a0,_,D⟩:=z e;exact .inr ⟨a0,D⟩
   ·rw[kb A]at t;exact .inr ⟨id,t⟩
 have T:∀{v:AV} {x:Value},Rel (NN M ι) w ι v x→Rel (NN M (ext (cE ι E f C) l R)) w' (ext (cE ι E f C) l R) (v.cY f) x:=fun hv =>
  (hv.mono m0 q0 h0 (ff S0 R)).cY (fun i I=>by
   by_cases J:i=l
   ·rw[J,Q];exact(cI _ _ _).symm
   ·rw[K _ J,bS _ _ J];exact kb I)
 have np:w0.pv f=none:=h.np a1;refine⟨⟨?_,h.old,fun i y hy=>?_,fun i g B=>?_,fun i L g B n=>?_,fun i c I=>?_,fun i a I=>?_,fun i c I V=>?_,fun i a I V=>?_,fun i v V=>?_⟩,T,fun hv e=>y5 hv i0 (fun j id e=>?_) e⟩
 ·refine h.below.trans ⟨S.below.os,S.below.tape,S.below.output,m0,fun k hk hG=>bZ k (u7 hk h.below.size) (fun i I=>?_)⟩;obtain⟨id,_,e⟩:=z I;rcases (h.own id k e).1 with h9|h9
  ·exact absurd hk (akq.2 h9)
  ·exact hG h9
 ·by_cases J:i=l
  ·subst J;exact jv _ _
  rw[K _ J]at hy;unfold cE at hy;by_cases A:i=f
  ·subst A;exact dY (h.kr i ar hr)
  ·rw[kb A]at hy;exact dY (h.use i y hy)
 ·by_cases J:i=l
  ·rw[J,Q]at B;obtain⟨m,W,_⟩:=o3 g B;refine⟨?_,W⟩;rcases m with m|m
   ·exact .inl (RX h.below.size m)
   ·exact(h.own f g m).1
  rw[K _ J]at B;unfold cE at B;by_cases A:i=f
  ·rw[lc A]at B;obtain⟨m,W⟩:=S.own C g B;refine⟨?_,W⟩;rcases m with m|⟨q,m⟩
   ·exact .inl (RX h.below.size m)
   ·obtain⟨id,_,e⟩:=z m;exact(h.own id g e).1
  ·rw[kb A]at B;exact⟨(h.own i g B).1,u7 (h.own i g B).2 m0⟩
 ·have t0:∀L,L≠f→bz (E C)=some g→bz (ι L)=some g→False:=fun L o B n=>by
   rcases (S.own C g B).1 with m|⟨q,m⟩
   ·exact absurd (h.own L g n).2 (akq.2 m)
   ·obtain⟨id,F,D⟩:=z m;have:=h.inj id L g D n;subst this;have P:=f2 q id F;unfold cE at P;rw[kb o]at P;have:=S.inj q C g (by rw[←P];exact D) B;subst this;have:=(eY U f0).1;rw[F]at this;injection this with this;exact o this
  have new:∀L,L≠l→bz (some R)=some g→bz (cE ι E f C L)=some g→False:=fun L o B n=>by
   obtain⟨m,_,q3⟩:=o3 g B;unfold cE at n;by_cases A:L=f
   ·rw[lc A]at n;exact q3 n
   ·rw[kb A]at n;rcases m with m|m
    ·exact absurd (h.own L g n).2 (akq.2 m)
    ·exact A (h.inj L f g n m)
  by_cases J:i=l
  ·by_cases Y:L=l
   ·rw[J,Y]
   ·rw[J,Q]at B;rw[K _ Y]at n;exact(new L Y B n).elim
  by_cases Y:L=l
  ·rw[Y,Q]at n;rw[K _ J]at B;exact(new i J n B).elim
  rw[K _ J]at B;rw[K _ Y]at n;unfold cE at B n;by_cases A:i=f
  ·by_cases X:L=f
   ·rw[A,X]
   ·rw[lc A]at B;rw[kb X]at n;exact(t0 L X B n).elim
  ·by_cases X:L=f
   ·rw[kb A]at B;rw[lc X]at n;exact(t0 i A n B).elim
   ·rw[kb A]at B;rw[kb X]at n;exact h.inj i L g B n
 ·rcases xj I with e|⟨_,e⟩
  ·obtain⟨j,d,m,_,_⟩:=yM t e;obtain⟨c0,A0⟩:=yd hO m;obtain⟨a0,cs,p1,p2,p3⟩:=Ci hO A0;have F:=(f1 i j m).2;have D:=(f1 a0 j p1).2;rw[F]at D;injection D with D;subst D
   exact dY (h.ko i cs p2)
  ·obtain⟨u,hu,_⟩:=kS e;exact dY (h.ko i u hu)
 ·have o:look i (bm l d0 (bm f b0 s.r))=some a:=I;rw[cv]at o;split at o
  ·rename_i e;subst e;exact jv _ _
  rw[cv]at o;split at o
  ·rename_i e;subst e;exact dY (h.kr i ar hr)
  ·exact dY (h.kr i a o)
 ·rcases xj I with e|⟨J,e⟩
  ·obtain⟨j,d,m,W,q3⟩:=yM t e;have e9:=(f1 i j m).2;have G:i≠l:=l0 i j (fN U e9);have F:=f2 j i e9;rw[K _ G,F]at V;rw[K _ G,F];obtain⟨g,T0,vs,r1,r2,r3⟩:=S.objs j d (FR v0 W) V;exact⟨g,⟨T0.1,HN (Hv U e9) (eY U (fN U e9)).2.2 T0.2⟩,vs,r1,r2,r3.rn i0 (fun j id e=>(K _ (l0 id j (fN U e))).trans (f2 j id e)) q3⟩
  ·obtain⟨u,hu,rfl⟩:=kS e;have A:i≠f:=fun e=>by rw[e,j1]at hu;cases hu
   have G:i≠l:=p0 i (h.ko i u hu);have F:cE ι E f C i=ι i:=kb A;rw[K _ G,F]at V;rw[K _ G,F];obtain⟨g,T0,vs,r1,r2,r3⟩:=h.objs i u hu V;refine⟨g,T0,vs,r1,(bZ g (h.own i g (by rw[r1];rfl)).2 (fun q hq=>?_)).trans r2,⟨by rw[mY];exact r3.len,r3.one,fun k x v hx hv=>?_⟩⟩
   ·obtain⟨id,D,P⟩:=z hq;have:=h.inj id i g P (by rw[r1];rfl);subst this;have:=jW (fN U D);rw[hρ]at this;rcases oR.1 this with e4|e4
    ·injection e4 with e5 e6;exact A e5
    ·exact Hs t e4 J
   ·obtain⟨y,hy,rfl⟩:=mu hx;exact T (r3.rel k y v hy hv)
 ·have o:look i (bm l d0 (bm f b0 s.r))=some a:=I;rw[cv]at o;split at o
  ·rename_i e;subst e;injection o with o;subst o
   rw[Q];obtain⟨v,xs,m,W,q3,q4,q5⟩:=S.arrs H d0 x0 (by rw[g0];rfl);rw[g0]at m;injection m with m;subst m
   refine⟨R,xs,rfl,W,q3,q4,fun j e hj k c hk=>?_⟩;obtain⟨x,hx,e0⟩:=q5 j e hj k c hk;exact⟨x,hx,.inl ((e0.flat (by omega)).mono (ll _) (fun b _ t=>i0 b t) (fun _ _ _=>rfl) (fun _ _ h=>h))⟩
  rename_i G;rw[cv]at o;split at o
  ·rename_i e;subst e;injection o with o;subst o
   have F:cE ι E i C i=E C:=lc rfl;rw[K _ G,F]at V;rw[K _ G,F];have m1:=(eY U f0).2.2;obtain⟨v,xs,m,W,q3,q4,q5⟩:=S.arrs C b0 i1 V;refine⟨v,xs,m,W,q3,q4,fun j e hj k c hk=>?_⟩;obtain⟨x,hx,e0⟩:=q5 j e hj k c hk;exact⟨x,hx,.inl ((e0.flat (by omega)).mono (ll _) (fun b _ t=>i0 b t) (fun _ _ _=>rfl) (fun _ _ h=>h))⟩
  ·rename_i A;have F:cE ι E f C i=ι i:=kb A;rw[K _ G,F]at V;rw[K _ G,F];obtain⟨v,xs,m,W,q3,q4,q5⟩:=h.arrs i a o V;have n1:=(eY U f0).2.1;refine⟨v,xs,m,fR W (fun g B=>bZ g (h.own i g (by rw[m];exact B)).2 (fun q hq=>?_)),q3,q4,fun j e hj k c hk=>?_⟩
   ·obtain⟨id,D,P⟩:=z hq;have:=h.inj id i g P (by rw[m];exact B);subst this;have:=jW (fN U D);rw[hρ]at this;rcases oR.1 this with e4|e4
    ·injection e4 with e5 e6;exact A e5
    ·have:=g1 _ e4;rw[o]at this;cases this
   ·obtain⟨x,hx,e0⟩:=q5 j e hj k c hk;have nb:∀q:Nat,dX≤nm i q:=fun q=>aln _ _;have lb:TG<dX:=by decide
    refine⟨x,hx,e0.mono m0 q0 h0 (fun r k0=>?_) (fun r k0=>bZ r (h.j9 k0) (fun q hq=>?_)) (fun h=>h)⟩
    ·exact(K _ (p0 _ (P3 _ _ _))).trans ((kb (fun e=>by have:=nb (j*a.sz+k);omega)).trans k0)
    ·obtain⟨id,D,P⟩:=z hq;have:=h.inj id _ r P (by rw[k0];rfl);have h9:=(eY U (fN U D)).2.1;have:=nb (j*a.sz+k);omega
 ·obtain⟨m,W⟩:=h.pin i v V;have G:i≠l:=p0 i (h.use i v m);refine⟨?_,qK W⟩;have A:i≠f:=fun e=>by rw[e,np]at V;cases V
  exact(K _ G).trans ((kb A).trans m)
 ·simp only[look]at e;split at e
  ·rename_i ej;injection e with e;subst e;subst ej;exact Q.trans g0.symm
  ·exact(K _ (l0 id j (fN U e))).trans (f2 j id e)
def rY(d:Cx)(ι:Env)(w:World)(ρ:hH)(a:c6)(xs:Array Value):Prop :=
 a.length=xs.size∧∀(i:Nat) v x,a[i]?=some v→xs[i]?=some x→∀N' c,(∀b,N' b→NN d.M ι b)→(∀id j,look id ρ=some j→c j=ι id)→Rel N' w c v x
def jo(f g:Nat):Value:=.func (.func f) #[.pointer (some ⟨g,0,none⟩)] #[]
def lL(s:AS)(o:Oper)(ρ:hH):Option (FuncId×c6) :=
 match o.op with
 | .call c=>match c.callee with
  | .value a=>match s.ev a,dk s c.args.toList with
   | some (.fn f aO),some l=>match fX ρ l with
    | some l'=>some (f,l'++aO)
    | none=>none
   | _,_=>none
  | _=>none
 | _=>none
def Kt(s:AS)(o:Oper)(ρ:hH):Option (Value×c6) :=
 match o.op with
 | .call c=>match c.callee with
  | .value a=>match s.ev a,dk s c.args.toList with
   | some (.vv x),some l=>match fX ρ l with
    | some l'=>some (x,l')
    | none=>none
   | _,_=>none
  | _=>none
 | _=>none
section
variable{d:Cx}{s:AS}{a:Act}{w:World}{ι:Env}
theorem Sj(e:aU d s a w ι){l l'}{xs:Array Operand}{ρ}(b:dk s xs.toList=some l)(c:fX ρ l=some l'):rY d ι w ρ l' (xs.map a.eval):=by
 obtain⟨k,m⟩:=ln e b;refine⟨by grind[uk],fun i v x g h N' n f j=>?_⟩
 grind[vU,y5]
theorem B1(A:aU d s a w ι){o:Oper}{ρ:hH}{g:FuncId}{e:c6}(h:lL s o ρ=some (g,e))(p:cF d.P g=true):
  ∃xs:Array Value,(execOp a.eval o).run d.P w=.ok (.enter g xs) w∧rY d ι w ρ e xs:=by
 unfold lL at h;split at h
 case h_2=>cases h
 rename_i c r;split at h
 case h_2=>cases h
 rename_i L j;split at h
 case h_2=>cases h
 rename_i f aO l F G;split at h
 case h_2=>cases h
 rename_i l' q;injection h with h;injection h with B C;subst B;subst C
 obtain⟨M,t,E,n⟩:=kx A r j F p;obtain⟨p1,J⟩:=Sj A G q;refine⟨_,t,by simp at p1⊢;omega,fun i v x m k N' K u I=>?_⟩;by_cases z:i<l'.length
 ·rw[z3 z]at m;rw[Dk (by rw[←p1];exact z)]at k;exact J i v x m k N' K u I
 ·rw[Dj (by omega)]at m;rw[ajx (by rw[←p1];omega)]at k;rw[←p1]at k;exact(n _ v x m (by simpa using k)).mono (ll _) (fun b _ D=>u b D) (fun _ _ _=>rfl) (fun id y H=>by cases H)
theorem afU(u:aU d s a w ι){o:Oper}{ρ:hH}{f g j id:Nat}{b:c6}(h:Kt s o ρ=some (jo f g,b))(p:cF d.P f=true)(H:look id ρ=some j)(F:ι id=some (.pointer (some ⟨g,0,none⟩))):
  ∃xs:Array Value,(execOp a.eval o).run d.P w=.ok (.enter f xs) w∧rY d ι w ρ (.ptr j 0::b) xs:=by
 unfold Kt at h;split at h
 case h_2=>cases h
 rename_i c r;split at h
 case h_2=>cases h
 rename_i B m;split at h
 case h_2=>cases h
 rename_i x l E G;split at h
 case h_2=>cases h
 rename_i l' q;injection h with h;injection h with z A;subst z;subst A
 obtain⟨p1,I⟩:=Sj u G q;have t:=u.ev E;generalize D:a.eval B=X at t;cases t with
 | vv _ _ K =>
  refine⟨#[.pointer (some ⟨g,0,none⟩)]++c.args.map a.eval,?_,by simp at p1⊢;omega,fun i v x k n N' J C y=>?_⟩
  ·unfold execOp;simp only[r,resolve,m,D,jo,Deferred.ofValue,sj,IT,u3,invoke];rw[Jy p];simp
  ·cases i with
   | zero =>
    simp only[List.getElem?_cons_zero]at k;injection k with k;subst k
    rw[Dk (by simp)]at n;have e:some (Value.pointer (some ⟨g,0,none⟩))=some x:=n;injection e with e;subst e
    exact .ptr _ _ _ _ ((y id j H).trans F)
   | succ i =>
    simp only[ak8]at k;rw[ajx (by simp)]at n;exact I i v x k (by simpa using n) N' J C y
end
def um(ρ:hH):AV→Option AV
 | .tup l=>match fX ρ l with|some l'=>some (.tup l')|none=>none
 | v=>ec ρ v
theorem adU{N N'}{w w'}{ι ι'}{ρ}(G:∀{v v':AV} {x:Value},Rel N w ι v x→ec ρ v=some v'→Rel N' w' ι' v' x){v v'}{x}(h:Rel N w ι v x)(e:um ρ v=some v'):Rel N' w' ι' v' x:=by
 unfold um at e;split at e
 ·split at e
  ·injection e with e;subst e
   cases h with
   | tup _ _ vs a d =>
    refine .tup _ _ vs (by grind[uk]) (fun i c y b f=>?_)
    grind[vU]
  grind
 grind
class GS where
 g:Nat
class SG [GS] (w0:aA):Prop where
 pv:w0.pv 440001=some (.pointer (some ⟨GS.g,0,none⟩))
def SU:eb:=[440009,440001,1440001]
def eo[GS](P:Program)(f:FuncId)(b:c6)(O:io)(ar:co)(Q:AV→AS→Prop):Prop :=
 ∀M w c xs,c 440001=some (.pointer (some ⟨GS.g,0,none⟩))→HS M (lB w c O) w c ⟨[],O,[(440009,ar)],SU⟩→b.length=xs.size→(∀(i:Nat) a x,b[i]?=some a→xs[i]?=some x→Rel (NN M c) w c a x)→Calls P f xs w (bJ M (lB w c O) Q)
theorem jO[GS]{P:Program}{f:FuncId}{i:Func}{c:Code}{b:c6}{O:io}{ar:co}{Q:AV→AS→Prop}(s:P.funcs[f]?=some i)(r:i.body=some c)(n:Nat)(z:i.ntmps=n)(y:b.length≤n)
  (h:∀M p [SG p],VE ⟨P,n,M,p⟩ (bodyPost P i (bJ M p Q)) [.c c] .normal ⟨idxs 0 b,O,[(440009,ar)],SU⟩) (q:(look 440001 O).isSome=true:=by kernel_rfl):eo P f b O ar Q:=by
 intro M w j xs t d o x;obtain⟨c0,l⟩:=v9.1 q;haveI:SG (lB w j O):=⟨by show(match look 440001 O with|some _=>j 440001|none=>none)=_;rw[l];exact t⟩;refine alx s r ?_;refine amu (h M (lB w j O) { tmps:=xs++Array.replicate (i.ntmps-xs.size) undef,defers:=[] } w j ?_) (fun e a w' u=>?_)
 ·refine⟨⟨d.below,d.old,d.use,d.own,d.inj,d.ko,d.kr,d.objs,d.arrs,d.pin⟩,rfl,?_,fun k v m=>?_⟩
  ·simp;omega
  ·rw[qW,lc (u6 _),akG]at m;have g:k<xs.size:=by rw[←o];exact(jf.1 m).1
   refine⟨xs[k],?_,x k v _ m (la g)⟩;simp only[];rw[Dk g,la g]
 ·cases e<;>exact u
def bP(b a:Nat):hH:=[(a,440009),(b,440001)]
def js(s:AS)(b a:Nat):Bool :=
 ik (bP b a) (ca (bP b a))&&(zk SU [(b,440001)] 440009&&((match s.u.contains (da a) with|true=>false|false=>true)&&((match look a s.o with|none=>true|some _=>false) &&
  (match look b s.r with|none=>true|some _=>false))))
def DC(s:AS)(d c b a:Nat):Bool:=(match has s.u b with|true=>false|false=>true)&&((match look b (bP d c) with|none=>true|some _=>false)&&((match Nat.beq a 440009 with|true=>false|false=>true)&&((match look a (ca (bP d c)) with|none=>true|some _=>false)&&Nat.ble (a+1) TG)))
theorem Xn{s}{d c b a}(h:DC s d c b a=true):has s.u b=false∧look b (bP d c)=none∧a≠440009∧look a (ca (bP d c))=none∧a<TG:=by
 simp only[DC,iN]at h;obtain⟨g,i,j,k,f⟩:=h;refine⟨?_,?_,fun e=>?_,?_,j3 f⟩
 ·grind
 ·grind
 ·simp_all
 grind
section
variable{c:Cx}{Q:Exit→Act→World→Prop}{m:dt}{s:AS}{d:Array Oper}{f:Func}{p:eb}{i:Nat}
theorem U1[GS]{a:Act}{w:World}{ι:Env}(B:aU c s a w ι)(f d:Nat){g:FuncId}{h:c6}{V1 V2:AV}{O O1 X:io}{ar m:co}(hc:eo c.P g h O ar (fun v Y=>v=V1∧cy Y.o O1∧look 440009 Y.r=some m))
  (hg:ι f=some (.pointer (some ⟨GS.g,0,none⟩))) {o:Oper}
  (A:∃xs:Array Value,(execOp a.eval o).run c.P w=.ok (.enter g xs) w∧rY c ι w (bP f d) h xs)
  (hO:fz (bP f d) s.o [(f,440001)]=some O) (E:look d s.r=some ar) (I:dS (ca (bP f d)) O1 [(f,440001)]=some X) (U:ec (ca (bP f d)) V1=some V2)
  (hd:cJ c.n o.dst=true) (t:js s f d=true) {Kn:Act→World→Prop} {Q:Exit→Act→World→Prop} (k:∀x w' Z,aU c ((j8 d m X s).put o.dst V2) (a.put o.dst x) w' (cE ι Z d 440009)→Kn (a.put o.dst x) w'):o.wp c.P a w Kn Q:=by
 simp only[js,iN]at t;obtain⟨q,k2,k3,k4,k5⟩:=t;have L:s.u.contains (da d)=false:=by
  cases z:s.u.contains (da d) with
  | true=>rw[z]at k3;cases k3
  | false=>rfl
 have T:look d s.o=none:=by
  cases z:look d s.o with
  | some _=>rw[z]at k4;cases k4
  | none=>rfl
 have M:∀p∈[(f,440001)],look p.1 s.r=none:=fun p N=>by
  rw[ags.1 N];cases z:look f s.r with
  | some _=>rw[z]at k5;cases k5
  | none=>rfl
 have D:cp (ca (bP f d)) ι 440001=ι f:=kz (eY q (by
  show look f [(d,440009),(f,440001)]=some 440001;have:f≠d:=fun e=>by
   have h1:=(eY (id:=d) (j:=440009) q (by simp[bP,look])).1;have r:=q;simp only[ik,iN,ne]at r;have F:=(r.1 (f,440001) (by simp[bP])).1;have h3:=fN q (qa F);rw[e]at h3;simp[bP,look]at h3
  simp[look,this])).1
 unfold Oper.wp;obtain⟨xs,R,V,W⟩:=A;rw[R,aeq];have hN:∀b,NN (fun b=>NN c.M ι b∧∀i,bz (cp (ca (bP f d)) ι i)≠some b) (cp (ca (bP f d)) ι) b→NN c.M ι b:=fun b l=>by
  rcases l with l|⟨j,l⟩
  ·exact l.1
  ·cases J:cp (ca (bP f d)) ι j with
   | none=>rw[J]at l;cases l
   | some y=>obtain⟨id,_,F⟩:=jQ J;exact .inr ⟨id,by rw[F];rw[J]at l;exact l⟩
 have n:∀(i:Nat) (a:AV) (x:Value),h[i]?=some a→xs[i]?=some x→Rel (NN (fun b=>NN c.M ι b∧∀i,bz (cp (ca (bP f d)) ι i)≠some b) (cp (ca (bP f d)) ι)) w (cp (ca (bP f d)) ι) a x:=fun i v x hv hx =>
  W i v x hv hx _ _ hN (fun id j e=>kz (eY q e).1)
 have H:∀p∈[(f,440001)],∃y,cp (ca (bP f d)) ι p.2=some y:=fun p N=>by
  rw[ags.1 N];exact⟨_,D.trans hg⟩
 refine (hc _ w _ xs (D.trans hg) (B.hs.IW rfl q hO E k2) V n).mono ?_
 rintro e w' ⟨x,v,Y,Z,rfl,⟨rfl,G,P⟩,K,S⟩
 obtain⟨g1,g2,g3⟩:=B.hs.UR rfl q hO E L T M H K G P I;have C:aU c (j8 d m X s) a w' (cE ι Z d 440009):=⟨g1,B.dfr,B.n,fun k v hk=>by
  obtain⟨u,hu,rfl⟩:=pM hk;obtain⟨y,hy,E⟩:=B.tmp k u hu;exact⟨y,hy,g2 E⟩⟩
 exact k _ _ _ (C.put (fU hd) (g3 S U))
theorem Jr[GS]{a}{w}{ι}(G:aU c s a w ι) b e{g}{j}{V1}{O t}{ar l}(C:eo c.P g j O ar (fun v y=>v=V1∧cy y.o t∧look 440009 y.r=some l))
  (E:ι b=some (.pointer (some ⟨GS.g,0,none⟩)))
  (q:∃xs:Array Value,(execOp a.eval { aW f p i with guard:=none }).run c.P w=.ok (.enter g xs) w∧rY c ι w (bP b e) j xs)
  (k:OT c Q m d (aV f p (i+1)) ((j8 e l ((dS (ca (bP b e)) t [(b,440001)]).getD []) s).put (aW f p i).dst ((ec (ca (bP b e)) V1).getD .any)))
  (A:fz (bP b e) s.o [(b,440001)]=some O) (F:look e s.r=some ar) (B:(dS (ca (bP b e)) t [(b,440001)]).isSome=true) (H:(ec (ca (bP b e)) V1).isSome=true)
  (D:cJ c.n (aW f p i).dst=true) (u:js s b e=true):wpList c.P d (Kw c.P Q m) ({ aW f p i with guard:=none }::aV f p (i+1)) a w:=by
 refine aa6 rfl fun K z=>?_;obtain⟨I,n⟩:=v9.1 B;obtain⟨V2,r⟩:=v9.1 H;rw[n,r]at k;exact U1 (o:={ aW f p i with guard:=none }) G b e C E q A F n r D u (fun x w' J h=>z _ _ (k _ _ _ h))
theorem aaM[GS]{a:Act}{w:World}{ι:Env}(L:aU c s a w ι)(l n o r:Nat){g:FuncId}{q:c6}{V1:AV}{O U:io}{ar z A:co}(hc:eo c.P g q O ar (fun v T=>v=V1∧cy T.o U∧look 440009 T.r=some z∧look r T.r=some A))(G:∀(N:Nat→Prop) w ι x,Rel N w ι V1 x→∃y,ι r=some y)
  (hg:ι l=some (.pointer (some ⟨GS.g,0,none⟩)))
  (I:∃xs:Array Value,(execOp a.eval { aW f p i with guard:=none }).run c.P w=.ok (.enter g xs) w∧rY c ι w (bP l n) q xs)
  (k:OT c Q m d (aV f p (i+1)) ((Ew n z ((dS (ca (bP l n)) U [(l,440001)]).getD []) o A s).put (aW f p i).dst ((um ((r,o)::ca (bP l n)) V1).getD .any)))
  (hO:fz (bP l n) s.o [(l,440001)]=some O) (S:look n s.r=some ar) (t:(dS (ca (bP l n)) U [(l,440001)]).isSome=true) (hv:(um ((r,o)::ca (bP l n)) V1).isSome=true)
  (hd:cJ c.n (aW f p i).dst=true) (F:js s l n=true) (hI:DC s l n o r=true):wpList c.P d (Kw c.P Q m) ({ aW f p i with guard:=none }::aV f p (i+1)) a w:=by
 refine aa6 rfl fun K hK=>?_;obtain⟨o2,D⟩:=v9.1 t;obtain⟨V2,R⟩:=v9.1 hv;rw[D,R]at k;simp only[Ts]at k;simp only[js,iN]at F;obtain⟨C,k2,k3,k4,k5⟩:=F;have a0:s.u.contains (da n)=false:=by
  cases H:s.u.contains (da n) with
  | true=>rw[H]at k3;cases k3
  | false=>rfl
 have f0:look n s.o=none:=by
  cases H:look n s.o with
  | some _=>rw[H]at k4;cases k4
  | none=>rfl
 have b0:∀p∈[(l,440001)],look p.1 s.r=none:=fun p hp=>by
  rw[ags.1 hp];cases H:look l s.r with
  | some _=>rw[H]at k5;cases k5
  | none=>rfl
 have P:cp (ca (bP l n)) ι 440001=ι l:=kz (eY C (by
  show look l [(n,440009),(l,440001)]=some 440001;have:l≠n:=fun e=>by
   have h1:=(eY (id:=n) (j:=440009) C (by simp[bP,look])).1;have E:=C;simp only[ik,iN,ne]at E;have V:=(E.1 (l,440001) (by simp[bP])).1;have h3:=fN C (qa V);rw[e]at h3;simp[bP,look]at h3
  simp[look,this])).1
 unfold Oper.wp;obtain⟨xs,e0,h0,i0⟩:=I;rw[e0,aeq];have hN:∀b,NN (fun b=>NN c.M ι b∧∀i,bz (cp (ca (bP l n)) ι i)≠some b) (cp (ca (bP l n)) ι) b→NN c.M ι b:=fun b t=>by
  rcases t with t|⟨j,t⟩
  ·exact t.1
  ·cases Y:cp (ca (bP l n)) ι j with
   | none=>rw[Y]at t;cases t
   | some y=>obtain⟨id,_,V⟩:=jQ Y;exact .inr ⟨id,by rw[V];rw[Y]at t;exact t⟩
 have B:∀(i:Nat) (a:AV) (x:Value),q[i]?=some a→xs[i]?=some x→Rel (NN (fun b=>NN c.M ι b∧∀i,bz (cp (ca (bP l n)) ι i)≠some b) (cp (ca (bP l n)) ι)) w (cp (ca (bP l n)) ι) a x:=fun i v x hv hx =>
  i0 i v x hv hx _ _ hN (fun id j e=>kz (eY C e).1)
 have X:∀p∈[(l,440001)],∃y,cp (ca (bP l n)) ι p.2=some y:=fun p hp=>by
  rw[ags.1 hp];exact⟨_,P.trans hg⟩
 refine (hc _ w _ xs (P.trans hg) (L.hs.IW rfl C hO S k2) h0 B).mono ?_
 rintro e w' ⟨x,v,T,ι1,rfl,⟨rfl,W,c0,d0⟩,Z,J⟩
 obtain⟨v3,g0⟩:=G _ _ _ _ J;obtain⟨i1,i2,i3,i4,i5⟩:=Xn hI;obtain⟨g1,g2,g3⟩:=L.hs.ad1 rfl C hO S a0 f0 b0 X Z W c0 D i1 i2 i3 i4 i5 g0 d0;have M:aU c (Ew n z o2 o A s) a w' (ext (cE ι ι1 n 440009) o v3):=⟨g1,L.dfr,L.n,fun k v hk=>by
  obtain⟨u,hu,rfl⟩:=pM hk;obtain⟨y,hy,S⟩:=L.tmp k u hu;exact⟨y,hy,g2 S⟩⟩
 exact hK _ _ (k _ _ _ (M.put (fU hd) (adU (fun h e=>g3 h e) J R)))
theorem rt[GS][SG c.w0]{g}{b}{V1}{O h}{ar e}(u:eo c.P g b O ar (fun v o=>v=V1∧cy o.o h∧look 440009 o.r=some e))
  (k:OT c Q m d (aV f p (i+1)) ((j8 440009 e ((dS (ca (bP 440001 440009)) h [(440001,440001)]).getD []) s).put (aW f p i).dst ((ec (ca (bP 440001 440009)) V1).getD .any)))
  (j:cF c.P g=true:=by kernel_rfl) (z:aV f p i=aW f p i::aV f p (i+1):=by kernel_rfl) (y:cH d s (aW f p i)=true:=by kernel_rfl) (q:lL s { aW f p i with guard:=none } (bP 440001 440009)=some (g,b):=by kernel_rfl)
  (r:fz (bP 440001 440009) s.o [(440001,440001)]=some O:=by kernel_rfl) (A:look 440009 s.r=some ar:=by kernel_rfl) (t:(dS (ca (bP 440001 440009)) h [(440001,440001)]).isSome=true:=by kernel_rfl) (B:(ec (ca (bP 440001 440009)) V1).isSome=true:=by kernel_rfl)
  (x:cJ c.n (aW f p i).dst=true:=by kernel_rfl) (l:js s 440001 440009=true:=by kernel_rfl):OT c Q m d (aV f p i) s:=by
 rw[z];exact fu _ y fun a w ι n=>Jr n 440001 440009 u ((n.hs.pin _ _ SG.pv).1) (B1 n q j) k r A t B x l
theorem Nx[GS][SG c.w0] e{b}{g}{h}{V1}{O o}{ar j l}(D:eo c.P g h O ar (fun v u=>v=V1∧cy u.o o∧look 440009 u.r=some j∧look b u.r=some l))(n:∀(N:Nat→Prop) w ι x,Rel N w ι V1 x→∃y,ι b=some y)
  (k:OT c Q m d (aV f p (i+1)) ((Ew 440009 j ((dS (ca (bP 440001 440009)) o [(440001,440001)]).getD []) e l s).put (aW f p i).dst ((um ((b,e)::ca (bP 440001 440009)) V1).getD .any)))
  (q:cF c.P g=true:=by kernel_rfl) (G:aV f p i=aW f p i::aV f p (i+1):=by kernel_rfl) (F:cH d s (aW f p i)=true:=by kernel_rfl) (z:lL s { aW f p i with guard:=none } (bP 440001 440009)=some (g,h):=by kernel_rfl)
  (B:fz (bP 440001 440009) s.o [(440001,440001)]=some O:=by kernel_rfl) (H:look 440009 s.r=some ar:=by kernel_rfl) (C:(dS (ca (bP 440001 440009)) o [(440001,440001)]).isSome=true:=by kernel_rfl) (I:(um ((b,e)::ca (bP 440001 440009)) V1).isSome=true:=by kernel_rfl)
  (E:cJ c.n (aW f p i).dst=true:=by kernel_rfl) (r:js s 440001 440009=true:=by kernel_rfl) (A:DC s 440001 440009 e b=true:=by kernel_rfl):OT c Q m d (aV f p i) s:=by
 rw[G];exact fu _ F fun a w ι t=>aaM t 440001 440009 e b D n ((t.hs.pin _ _ SG.pv).1) (B1 t z q) k B H C I E r A
theorem L8[GS][SG c.w0]{g}{b}{V1}{O j}{ar e}(u:eo c.P g (.ptr 440001 0::b) O ar (fun v o=>v=V1∧cy o.o j∧look 440009 o.r=some e))
  (k:OT c Q m d (aV f p (i+1)) ((j8 440009 e ((dS (ca (bP 440001 440009)) j [(440001,440001)]).getD []) s).put (aW f p i).dst ((ec (ca (bP 440001 440009)) V1).getD .any)))
  (l:cF c.P g=true:=by kernel_rfl) (z:aV f p i=aW f p i::aV f p (i+1):=by kernel_rfl) (y:cH d s (aW f p i)=true:=by kernel_rfl) (q:Kt s { aW f p i with guard:=none } (bP 440001 440009)=some (jo g GS.g,b):=by kernel_rfl)
  (r:fz (bP 440001 440009) s.o [(440001,440001)]=some O:=by kernel_rfl) (A:look 440009 s.r=some ar:=by kernel_rfl) (t:(dS (ca (bP 440001 440009)) j [(440001,440001)]).isSome=true:=by kernel_rfl) (B:(ec (ca (bP 440001 440009)) V1).isSome=true:=by kernel_rfl)
  (x:cJ c.n (aW f p i).dst=true:=by kernel_rfl) (n:js s 440001 440009=true:=by kernel_rfl):OT c Q m d (aV f p i) s:=by
 rw[z];exact fu _ y fun a w ι h=>Jr h 440001 440009 u ((h.hs.pin _ _ SG.pv).1) (afU h q l (by rfl) ((h.hs.pin _ _ SG.pv).1)) k r A t B x n
theorem tv(h n:Nat){g:FuncId}{o:c6}{V1:AV}{O B:io}{ar t:co}(W:∀ [GS],eo c.P g o O ar (fun v P=>v=V1∧cy P.o B∧look 440009 P.r=some t))
  (k:OT c Q m d (aV f p (i+1)) ((j8 n t ((dS (ca (bP h n)) B [(h,440001)]).getD []) s).put (aW f p i).dst ((ec (ca (bP h n)) V1).getD .any)))
  (D:cF c.P g=true:=by kernel_rfl) (Z:aV f p i=aW f p i::aV f p (i+1):=by kernel_rfl) (Y:cH d s (aW f p i)=true:=by kernel_rfl) (C:lL s { aW f p i with guard:=none } (bP h n)=some (g,o):=by kernel_rfl)
  (A:fz (bP h n) s.o [(h,440001)]=some O:=by kernel_rfl) (hr:look n s.r=some ar:=by kernel_rfl) (r:(dS (ca (bP h n)) B [(h,440001)]).isSome=true:=by kernel_rfl) (hv:(ec (ca (bP h n)) V1).isSome=true:=by kernel_rfl)
  (X:cJ c.n (aW f p i).dst=true:=by kernel_rfl) (u:js s h n=true:=by kernel_rfl) (hp:o.any (xJ 440001)=true:=by kernel_rfl):OT c Q m d (aV f p i) s:=by
 rw[Z];refine fu _ Y fun a w ι H=>?_;obtain⟨xs,q1,M,N⟩:=B1 H C D;have K:=u;simp only[js,iN]at K;have V:∀b,NN (fun b=>NN c.M ι b∧∀i,bz (cp (ca (bP h n)) ι i)≠some b) (cp (ca (bP h n)) ι) b→NN c.M ι b:=fun b r=>by
  rcases r with r|⟨j,r⟩
  ·exact r.1
  ·cases F:cp (ca (bP h n)) ι j with
   | none=>rw[F]at r;cases r
   | some y=>obtain⟨id,_,z⟩:=jQ F;exact .inr ⟨id,by rw[z];rw[F]at r;exact r⟩
 obtain⟨v,I,J⟩:=adz.1 hp;obtain⟨q,L⟩:=alj.1 I;have G:q<xs.size:=by rw[←M];exact(jf.1 L).1
 obtain⟨y,hy⟩:=MP J (N q v _ L (la G) _ _ V (fun id j e=>kz (eY K.1 e).1));obtain⟨id,x,R⟩:=jQ hy;have S:id=h:=by
  have z:look 440001 (ca (bP h n))=some h:=rfl;rw[z]at x;injection x with x;exact x.symm
 subst S;obtain⟨cs,E⟩:∃cs,look id s.o=some cs:=by
  unfold fz at A;split at A
  ·rename_i cs l C z;exact⟨cs,C⟩
  ·cases A
 obtain⟨U,_,_,T,_,_⟩:=H.hs.objs id cs E (by rw[R];rfl)
 letI:GS:=⟨U⟩
 exact Jr H id n W T ⟨xs,q1,M,N⟩ k A hr r hv X u
end
def l9(b a:Nat)(d:Option Tmp)(c:co)(e:io)(V1:AV)(s:AS):AS:=(j8 a c ((dS (ca (bP b a)) e [(b,440001)]).getD []) s).put d ((ec (ca (bP b a)) V1).getD .any)
def Cw(d:Option Tmp)(a:co)(b:io)(V1:AV)(s:AS):AS:=l9 440001 440009 d a b V1 s
def Dn(b a:Nat)(s:AS):Bool:=match look b s.o with
 | some (.ref i::_)=>Nat.beq i a
 | _=>false
theorem Nu[GS](b f:Nat){P:Program}{n:Nat}{ops:Array Oper}{s:AS}{o:Oper}{J:Nat}{g:FuncId}{k:c6}{V1:AV}{O I:io}{ar D:co}(hc:eo P g k O ar (fun v s1=>v=V1∧cy s1.o I∧look 440009 s1.r=some D))
  (N:look J s.t=some (.lk b (.pointer (some ⟨GS.g,0,none⟩)))) (S:∀(j:Nat) (o':Oper),ops[j]?=some o'→o'.dst≠some J) (C:lL s o (bP b f)=some (g,k)) (M:cF P g=true)
  (hO:fz (bP b f) s.o [(b,440001)]=some O) (hr:look f s.r=some ar) (hb:(dS (ca (bP b f)) I [(b,440001)]).isSome=true) (hv:(ec (ca (bP b f)) V1).isSome=true)
  (hd:cJ n o.dst=true) (U:js s b f=true) (H:Dn b f s=true):I5 P n ops s (l9 b f o.dst D I V1 s) o:=by
 refine⟨J,b,_,N,S,fun cx hP hn fl a w ι V Z F Kn Q hk=>?_⟩;subst hP;subst hn;obtain⟨o2,l⟩:=v9.1 hb;obtain⟨V2,z⟩:=v9.1 hv;have L:lL (s.tt (cu fl s.t)) o (bP b f)=some (g,k):=by
  unfold lL at C⊢;split at C
  case h_2=>cases C
  rename_i cl p;split at C
  case h_2=>cases C
  rename_i K m;have W:(s.tt (cu fl s.t)).ev K=s.ev K:=by
   cases K with
   | tmp t =>
    show look t (cu _ _)=look t _;rw[eQ,lc (F (.tmp t) t (by simp[p,Op.operands,Call.operands,m]) rfl)]
   | const v=>rfl
   | func g=>rfl
   | global g=>rfl
  have X:dk (s.tt (cu fl s.t)) cl.args.toList=dk s cl.args.toList:=qu (fun x hx=>by
   cases x with
   | tmp t =>
    show look t (cu _ _)=look t _;rw[eQ,lc (F (.tmp t) t (by simp[p,Op.operands,Call.operands,m];exact .inr (Do.1 hx)) rfl)]
   | const v=>rfl
   | func g=>rfl
   | global g=>rfl)
  simp only[p,m,W,X];exact C
 refine U1 V b f hc Z (B1 V L M) hO hr l z hd U (fun x w' ι1 G=>hk _ _ _ _ (fun id a0 B=>?_) ?_ ?_ ?_ (fun t v i u=>?_) G)
 ·unfold cE;by_cases e:id=f
  ·exfalso;unfold Dn at H;split at H
   case h_2=>cases H
   rename_i q r hq;obtain⟨g0,T,vs,W,X,Y⟩:=V.hs.objs b _ hq (by rw[Z];rfl);have R:0<vs.toList.length:=by rw[←Y.len];simp
   have:=Y.rel 0 _ _ rfl (jt R);rw[mo H]at this;generalize vs.toList[0]=y at this;cases this with
   | ref _ _ A n c h=>rw[e,h]at B;cases B
  ·rw[kb e];exact B
 ·unfold l9;rw[l,z];cases o.dst<;>rfl
 ·unfold l9;rw[l,z];cases o.dst<;>rfl
 ·unfold l9;rw[l,z];cases o.dst<;>rfl
 ·unfold l9 at u;rw[l,z]at u;simp only[Ts]at u;cases E:o.dst with
  | none =>
   rw[E]at u i;rcases i with i|i
   ·show look t (dF _ (cu _ _))=_;rw[tE,eQ,lc i];exact u
   ·cases i
  | some d =>
   rw[E]at u i;simp only[AS.put,j8,cv]at u⊢;by_cases e:t=d
   ·rw[lc e]at u⊢;exact u
   ·rw[kb e]at u⊢;rcases i with i|i
    ·show look t (dF _ (cu _ _))=_;rw[tE,eQ,lc i];exact u
    ·injection i with i;exact(e i).elim
section
variable{P:Program}{n:Nat}{c:AS}{b:Array Oper}{K:Nat}{a:g6}{o:Oper}
theorem Hy[GS](m r:Nat){g:FuncId}{d:c6}{V1:AV}{O f:io}{ar e:co}(y:eo P g d O ar (fun v s=>v=V1∧cy s.o f∧look 440009 s.r=some e))
  (i:cF P g=true:=by kernel_rfl) (A:Cw o.dst e f V1 (nth a m)=nth a (m+1):=by kernel_rfl) (l:look r (nth a m).t=some (.lk 440001 (.pointer (some ⟨GS.g,0,none⟩))):=by kernel_rfl) (p:xq r b.toList=true:=by kernel_rfl) (k:o.guard.isNone=true:=by kernel_rfl)
  (t:lL (nth a m) o (bP 440001 440009)=some (g,d):=by kernel_rfl)
  (w:fz (bP 440001 440009) (nth a m).o [(440001,440001)]=some O:=by kernel_rfl) (C:look 440009 (nth a m).r=some ar:=by kernel_rfl) (x:(dS (ca (bP 440001 440009)) f [(440001,440001)]).isSome=true:=by kernel_rfl) (D:(ec (ca (bP 440001 440009)) V1).isSome=true:=by kernel_rfl)
  (z:cJ n o.dst=true:=by kernel_rfl) (q:js (nth a m) 440001 440009=true:=by kernel_rfl) (u:Dn 440001 440009 (nth a m)=true:=by kernel_rfl):fv P n c b K a o (.s (m+1)):=by
 have h:=Nu 440001 440009 (ops:=b) y l (fun j E B=>Gw p E (Do.2 (al5 B))) t i w C x D z q u;rw[show l9 440001 440009 o.dst e f V1 (nth a m)=nth a (m+1) from A]at h;exact⟨by rw[show o.guard=none by simpa using k];rfl,.inr h⟩
theorem Sp(m t d e u:Nat){g:FuncId}{f:c6}{V1:AV}{O k:io}{ar i:co}(B:∀ [GS],eo P g f O ar (fun v w=>v=V1∧cy w.o k∧look 440009 w.r=some i))
  (l:cF P g=true:=by kernel_rfl) (D:l9 d e o.dst i k V1 (nth a m)=nth a (m+1):=by kernel_rfl) (q:look t (nth a m).t=some (.lk d (.pointer (some ⟨u,0,none⟩))):=by kernel_rfl) (r:xq t b.toList=true:=by kernel_rfl) (p:cH b (nth a m) o=true:=by kernel_rfl)
  (x:lL (nth a m) o (bP d e)=some (g,f):=by kernel_rfl)
  (z:fz (bP d e) (nth a m).o [(d,440001)]=some O:=by kernel_rfl) (F:look e (nth a m).r=some ar:=by kernel_rfl) (A:(dS (ca (bP d e)) k [(d,440001)]).isSome=true:=by kernel_rfl) (G:(ec (ca (bP d e)) V1).isSome=true:=by kernel_rfl)
  (C:cJ n o.dst=true:=by kernel_rfl) (s:js (nth a m) d e=true:=by kernel_rfl) (y:Dn d e (nth a m)=true:=by kernel_rfl):fv P n c b K a o (.s (m+1)):=by
 letI:GS:=⟨u⟩
 have h:=Nu d e (ops:=b) B q (fun j H E=>Gw r H (Do.2 (al5 E))) x l z F A G C s y;rw[D]at h;exact⟨CW p,.inr h⟩
end
end Go.Proofs.YtocgkfoifehcbaaGreat

/- Calls that turn a slice of the caller's. No program in sight. -/
import Derived.Test.YtocgkfoifehcbaaGreatRkVy
namespace Go.Proofs.YtocgkfoifehcbaaGreat
set_option linter.all false
open Go.RowKit
def mO(w:World)(id0:Nat)(v0:Value):aA:=⟨w,fun g=>bz (some v0)=some g,fun i=>if i=id0 then some v0 else none⟩
def uz(P:Program)(f:FuncId)(d:c6)(id0:Nat)(ar:co)(Q:AV→AS→Prop):Prop :=
 ∀M w xs v0 g,(∀b,M b→b<w.heap.size∧bz (some v0)≠some b)→w.ownsRow 0 ar.e ar.sz v0 ar.l.length g→(∀e∈ar.l,e.length=ar.sz)→(∀x∈g,x.oneCell'=true) →
  (∀j e,ar.l[j]?=some e→∀i c,e[i]?=some c→∃x,g[j*ar.sz+i]?=some x∧Rel (NN M (ext bG id0 v0)) w bG c x) →
  d.length=xs.size→(∀(i:Nat) a x,d[i]?=some a→xs[i]?=some x→Rel (NN M (ext bG id0 v0)) w (ext bG id0 v0) a x)→Calls P f xs w (bJ M (mO w id0 v0) Q)
theorem HT{w:World}{e}{sz n}{v}{k}(h:w.ownsRow 0 e sz v n k){g}(a:bz (some v)=some g):g<w.heap.size:=by
 obtain⟨b,_⟩|⟨f,c,d,b,_,j,_⟩:=h.2
 ·rw[b]at a;cases a
 ·rw[b]at a;have i:some f=some g:=a
  grind
theorem B2{P:Program}{f:FuncId}{t:Func}{c:Code}{l:c6}{id0:Nat}{ar:co}{Q:AV→AS→Prop}(O:P.funcs[f]?=some t)(B:t.body=some c)(n:Nat)(X:t.ntmps=n)(W:l.length≤n)
  (h:∀M I,VE ⟨P,n,M,I⟩ (bodyPost P t (bJ M I Q)) [.c c] .normal ⟨idxs 0 l,[],[(id0,ar)],[id0,da id0]⟩):uz P f l id0 ar Q:=by
 intro M w xs v0 V L q z A C F G;refine alx O B ?_;have H:∀i y,ext bG id0 v0 i=some y→i=id0∧y=v0:=fun i y r=>by
  by_cases e:i=id0
  ·subst e;rw[cI]at r;injection r with r;exact⟨rfl,r.symm⟩
  ·rw[bS _ _ e]at r;cases r
 have o:∀i g,bz (ext bG id0 v0 i)=some g→i=id0∧bz (some v0)=some g:=fun i g p=>by
  cases u:ext bG id0 v0 i with
  | none=>rw[u]at p;cases p
  | some y=>obtain⟨J,K⟩:=H i y u;rw[u,K]at p;exact⟨J,p⟩
 refine amu (h M (mO w id0 v0) { tmps:=xs++Array.replicate (t.ntmps-xs.size) undef,defers:=[] } w (ext bG id0 v0) ?_) (fun e a w' R=>?_)
 ·refine⟨⟨⟨rfl,rfl,rfl,ll _,fun _ _ _=>rfl⟩,fun b B=>L b B,fun i y r=>?_,fun i g p=>⟨.inr (o i g p).2,HT q (o i g p).2⟩,fun i U g p D=>(o i g p).1.trans (o U g D).1.symm,fun i cs d=>(by cases d),fun i a d=>?_,fun i cs d=>(by cases d),fun i a d Y=>?_,fun i v T=>?_⟩,rfl,?_,fun k v E=>?_⟩
  ·rw[(H i y r).1];exact fk (by simp)
  ·simp only[look]at d;split at d
   ·rename_i e;subst e;exact fk (by simp)
   ·cases d
  ·simp only[look]at d;split at d
   ·rename_i e;subst e;injection d with d;subst d
    exact⟨v0,V,cI _ _ _,q,z,A,fun j e u k c N=>by obtain⟨x,G,S⟩:=C j e u k c N;exact⟨x,G,.inl S⟩⟩
   ·cases d
  ·have m:(if i=id0 then some v0 else none)=some v:=T;split at m
   ·rename_i e;subst e;injection m with m;subst m
    exact⟨cI _ _ _,by simp⟩
   ·cases m
  ·simp;omega
  ·rw[qW,lc (u6 _),akG]at E;have s:k<xs.size:=by rw[←F];exact(jf.1 E).1
   refine⟨xs[k],?_,G k v _ E (la s)⟩;simp only[];rw[Dk s,la s]
 ·cases e<;>exact R
theorem HS.back{M:Nat→Prop}{U:aA}{w w':World}{ι G:Env}{s S:AS}(h:HS M U w ι s){id id0:Nat}{ar m:co}{v0:Value}(a0:id0<TG)(J:look id s.r=some ar)(p:ι id=some v0)
  (q:HS (fun b=>NN M ι b∧bz (some v0)≠some b) (mO w id0 v0) w' G S) (K:look id0 S.r=some m):HS M U w' ι (d9 id m s)∧(∀b,NN M ι b→NN (fun b=>NN M ι b∧bz (some v0)≠some b) G b)∧(∀b,b<w.heap.size→¬ NN M ι b→w'.heap[b]?=w.heap[b]?)∧w.heap.size≤w'.heap.size:=by
 have u:G id0=some v0:=(q.pin id0 v0 (by simp[mO])).1;have C:∀b,NN M ι b→NN (fun b=>NN M ι b∧bz (some v0)≠some b) G b:=fun b n=>by
  by_cases e:bz (some v0)=some b
  ·exact .inr ⟨id0,by rw[u];exact e⟩
  ·exact .inl ⟨n,e⟩
 have o:w.heap.size≤w'.heap.size:=q.below.size;have B:∀b,b<w.heap.size→bz (some v0)≠some b→w'.heap[b]?=w.heap[b]?:=fun b t n=>q.below.block b t n;have f:∀b,b<w.heap.size→¬ NN M ι b→w'.heap[b]?=w.heap[b]?:=fun b t n=>B b t (fun e=>n (.inr ⟨id,by rw[p];exact e⟩));refine⟨⟨?_,h.old,h.use,fun i g D=>⟨(h.own i g D).1,u7 (h.own i g D).2 o⟩,h.inj,h.ko,fun i a E=>?_,fun i cs E O=>?_,fun i a E O=>?_,h.pin⟩,C,f,o⟩
 ·refine h.below.trans ⟨q.below.os,q.below.tape,q.below.output,o,fun k z Z=>B k (u7 z h.below.size) (fun e=>?_)⟩;rcases (h.own id k (by rw[p];exact e)).1 with I|I
  ·exact absurd z (akq.2 I)
  ·exact Z I
 ·have d:look i (bm id m s.r)=some a:=E;rw[cv]at d;split at d
  ·rename_i e;subst e;exact h.kr i ar J
  ·exact h.kr i a d
 ·obtain⟨g,T,vs,y,W,X⟩:=h.objs i cs E O;have N:bz (some v0)≠some g:=fun e=>by
   have:=h.inj i id g (by rw[y];rfl) (by rw[p];exact e);subst this;rw[y]at p;injection p with p;subst p
   obtain⟨v,xs,l,F,_⟩:=h.arrs i ar J (by rw[y];rfl);rw[y]at l;injection l with l;subst l
   rcases F.2 with⟨A,_⟩|⟨_,_,_,A,_⟩<;>cases A
  exact⟨g,T,vs,y,(B g (h.own i g (by rw[y];rfl)).2 N).trans W,X.mono o (fun b _ n=>n) f (fun _ _ h=>h)⟩
 ·have d:look i (bm id m s.r)=some a:=E;rw[cv]at d;split at d
  ·rename_i e;subst e;injection d with d;subst d
   obtain⟨v,xs,l,F,A,R,q5⟩:=q.arrs id0 m K (by rw[u];rfl);rw[u]at l;injection l with l;subst l
   refine⟨v0,xs,p,F,A,R,fun j e L k c z=>?_⟩;obtain⟨x,Q,P⟩:=q5 j e L k c z;exact⟨x,Q,.inl ((P.flat (by omega)).mono (ll _) (fun b _ n=>C b n) (fun _ _ _=>rfl) (fun _ _ h=>h))⟩
  ·rename_i e;obtain⟨v,xs,l,F,A,R,q5⟩:=h.arrs i a d O;refine⟨v,xs,l,fR F (fun g D=>B g (h.own i g (by rw[l];exact D)).2 (fun V=>e (h.inj i id g (by rw[l];exact D) (by rw[p];exact V)))),A,R,fun j Y L k c z=>?_⟩;obtain⟨x,Q,P⟩:=q5 j Y L k c z;exact⟨x,Q,P.mono o (fun b _ n=>n) f (fun _ h=>h) (fun r H=>B r (h.j9 H) (fun e=>by
    have:=h.inj _ id r (by rw[H];rfl) (by rw[p];exact e);exact h.Aw J H this)) (fun h=>h)⟩
def CG(id id0:Nat):AV→Option AV
 | .ref i=>match Nat.beq i id with|true=>some (.ref id0)|false=>none
 | v=>match v.dg [] with|true=>some (gF v)|false=>none
def s6(id id0:Nat):c6→Option c6
 | []=>some []
 | v::r=>match CG id id0 v,s6 id id0 r with|some x,some l=>some (x::l)|_,_=>none
def TD(s:AS)(o:Oper)(id id0:Nat):Option (FuncId×c6) :=
 match o.op with
 | .call c=>match c.callee with
  | .value a=>match s.ev a,dk s c.args.toList with
   | some (.fn f []),some l=>match s6 id id0 l with
    | some l'=>some (f,l')
    | none=>none
   | _,_=>none
  | _=>none
 | _=>none
theorem LR{id id0}:∀{l l'},s6 id id0 l=some l'→l'.length=l.length
 | [],_,h=>by injection h with h;grind
 | v::r,l',h=>by
  unfold s6 at h;split at h
  ·rename_i b a;injection h with h;subst h;simp[LR a]
  grind
theorem Fz{id id0}:∀{l l'},s6 id id0 l=some l'→∀(i:Nat) a,l'[i]?=some a→∃b,l[i]?=some b∧CG id id0 b=some a
 | [],_,h,i,a,c=>by injection h with h;grind
 | v::r,l',h,i,a,c=>by
  unfold s6 at h;split at h
  ·rename_i e d;injection h with h;subst h
   cases i with
   | zero=>grind
   | succ i=>exact Fz d i a c
  grind
theorem tK{b}{s}{c}{R}(h:VE b (bodyPost b.P c R) [] .ret s):VE b (bodyPost b.P c R) [] .normal s:=fun a w ι d=>h a w ι d
def yJ(id0:Nat):c6→Bool
 | []=>false
 | .ref i::r=>Nat.beq i id0||yJ id0 r
 | _::r=>yJ id0 r
theorem JP{id0}:∀{l},yJ id0 l=true→∃i:Nat,l[i]?=some (.ref id0)
 | [],h=>by cases h
 | v::r,h=>by
  unfold yJ at h;split at h
  ·grind
  ·rename_i i e a;injection a with d b;subst d;subst b
   simp only[Io]at h;rcases h with h|h
   ·have:=mo h;subst this;exact⟨0,rfl⟩
   ·obtain⟨j,c⟩:=JP h;exact⟨j+1,c⟩
  ·rename_i a;injection a with d b;subst b
   obtain⟨j,c⟩:=JP h;exact⟨j+1,c⟩
theorem Rb{id id0}{b a}(h:CG id id0 b=some a):(b=.ref id∧a=.ref id0)∨(b.dg []=true∧a=gF b):=by
 unfold CG at h;split at h
 ·split at h
  ·simp_all
  grind
 grind
theorem ZV{b}{id0}(h:gF b=.ref id0)(a:b.dg []=true):False:=by
 cases b<;>first|grind|(simp[AV.dg]at a;done)|(cases h)
theorem bW{α β:Type}{x}{f:α→Option β}{r}(h:(some x).bind f=some r):∃v,x=v∧f v=some r :=by grind
section
variable{d:Cx}{Q:Exit→Act→World→Prop}{q:dt}{s:AS}{m:Array Oper}{f:Func}{p:eb}{i:Nat}
theorem s5(id id0:Nat){g:FuncId}{u:c6}{V:AV}{ar D:co}(S:uz d.P g u id0 ar (fun v s1=>v=V∧look id0 s1.r=some D))(k:OT d Q q m (aV f p (i+1)) ((d9 id D s).put (aW f p i).dst V))
  (hl:aV f p i=aW f p i::aV f p (i+1):=by kernel_rfl) (hg:cH m s (aW f p i)=true:=by kernel_rfl) (U:cF d.P g=true:=by kernel_rfl) (t:TD s (aW f p i) id id0=some (g,u):=by kernel_rfl)
  (ha:look id s.r=some ar:=by kernel_rfl) (W:(cJ d.n (aW f p i).dst&&V.dg [])=true:=by kernel_rfl) (M:yJ id0 u=true:=by kernel_rfl) (z:(Nat.ble (id+1) TG&&Nat.ble (id0+1) TG)=true:=by kernel_rfl):OT d Q q m (aV f p i) s:=by
 rw[hl];refine fu _ hg fun a w ι I=>?_;refine aa6 rfl fun K hK=>?_;simp only[iN]at W;unfold TD at t;split at t
 case h_2=>cases t
 rename_i c Z;split at t
 case h_2=>cases t
 rename_i fo J;split at t
 case h_2=>cases t
 rename_i f' l hf Y;split at t
 case h_2=>cases t
 rename_i l' F;injection t with t;injection t with e1 e2;subst e1;subst e2
 obtain⟨q1,q2⟩:=ln I Y;have B:∀(i:Nat) (b:AV),l[i]?=some b→∃y,(c.args.map a.eval)[i]?=some y∧Rel (NN d.M ι) w ι b y:=fun i b r=>by
  have e0:i<l.length:=(jf.1 r).1;have L:i<(c.args.toList.map a.eval).length:=by have d0:=q1;simp only[nx]at d0⊢;omega
  have H:=jt L;exact⟨_,by rw[←afC,aj6];exact H,q2 i b _ r H⟩
 obtain⟨j,hj⟩:=JP M;obtain⟨b,r,E⟩:=Fz F j _ hj;obtain⟨v0,O⟩:∃v0,ι id=some v0:=by
  obtain⟨rfl,_⟩|⟨hp,hz⟩:=Rb E
  ·obtain⟨y,_,C⟩:=B j _ r;cases C with
   | ref _ _ A n c h=>exact⟨_,h⟩
  ·exact(ZV hz.symm hp).elim
 obtain⟨v1,xs,P,r2,r3,r4,r5⟩:=I.hs.arrs id ar ha (by rw[O];rfl);rw[O]at P;injection P with P;subst P
 have hN:∀b,NN (fun b=>NN d.M ι b∧bz (some v0)≠some b) (ext bG id0 v0) b→NN d.M ι b:=fun b r=>by
  rcases r with r|⟨i,r⟩
  ·exact r.1
  ·by_cases e:i=id0
   ·subst e;rw[cI]at r;exact .inr ⟨id,by rw[O];exact r⟩
   ·rw[bS _ _ e]at r;cases r
 unfold Oper.wp;obtain⟨ys,a0,T,_⟩:=kx (o:={ aW f p i with guard:=none }) I Z J hf U;have c0:ys=[]:=n3 (by simpa using T.symm);subst c0;have b0:c.args.map a.eval++([]:ee).toArray=c.args.map a.eval:=by simp
 rw[a0,aeq,b0];refine (S (fun b=>NN d.M ι b∧bz (some v0)≠some b) w _ v0 xs (fun b r=>⟨lW I.hs r.1,r.2⟩) r2 r3 r4 (fun j e he i c S=>?_) ?_ (fun i a' x R hx=>?_)).mono ?_
 ·obtain⟨x,hx,C⟩:=r5 j e he i c S;rw[iN]at z;have:=j3 z.1;exact⟨x,hx,(C.flat (by omega)).mono (ll _) (fun b _ r=>hN b r) (fun _ _ _=>rfl) (fun _ _ h=>h)⟩
 ·rw[LR F];simp at q1⊢;omega
 ·obtain⟨b,r,E⟩:=Fz F i _ R;obtain⟨y,H,C⟩:=B i b r;rw[hx]at H;injection H with H;subst H
  obtain⟨rfl,rfl⟩|⟨hp,rfl⟩:=Rb E
  ·cases C with
   | ref _ _ A n c h =>
    rw[O]at h;injection h with h;subst h
    exact .ref _ _ _ _ _ (cI _ _ _)
  ·exact zh ((C.pure hp (ext bG id0 v0)).mono (ll _) (fun b _ r=>hN b r) (fun _ _ _=>rfl) (fun _ _ h=>h))
 ·rintro e w' ⟨x,v,s1,ι1,rfl,⟨rfl,G⟩,X,C⟩
  rw[iN]at z;obtain⟨g1,g2,g3,g4⟩:=I.hs.back (j3 z.2) ha O X G;have h3:Rel (NN d.M ι) w' ι v x:=(C.pure W.2 ι).mono (ll _) (fun b _ r=>g2 b r) (fun _ _ _=>rfl) (fun _ _ h=>h);have N:aU d (d9 id D s) a w' ι:=I.world g1 rfl g4 (fun b _ r=>r) g3 (fun _ _ h=>h);exact hK _ _ (k _ _ _ (N.put (fU W.1) h3))
end
def Ii(k id:Nat)(cs:c6)(s:AS):AS:={ t:=bm k (.cptr cs) (dF id s.t),o:=fK id s.o,r:=s.r,u:=s.u }
theorem HS.fo{M:Nat→Prop}{D:aA}{w:World}{ι:Env}{s:AS}(h:HS M D w ι s){k id:Nat}{cs:c6}(I:D.pv id=none)(J:look id s.o=some cs):HS M D w (fO ι id) (Ii k id cs s):=by
 refine⟨h.below,h.old,fun i y d=>h.use i y (mT d).2,fun i g z=>h.own i g (kp z).2,fun i N g z A=>h.inj i N g (kp z).2 (kp A).2,fun i cs f=>?_,h.kr,fun i cs f m=>?_,fun i a f m=>?_,fun i y m=>?_⟩
 ·obtain⟨u,B,_⟩:=kS f;exact h.ko i u B
 ·obtain⟨u,B,rfl⟩:=kS f;obtain⟨y,d⟩:=v9.mp m;obtain⟨l,d⟩:=mT d;obtain⟨g,T,vs,n,q,o⟩:=h.objs i u B (by rw[d];rfl);refine⟨g,T,vs,(gf ι l).trans n,q,by rw[mY];exact o.len,o.one,fun j x v C L=>?_⟩;obtain⟨y,d,rfl⟩:=mu C;exact((o.rel j y v d L).cY (fun i f=>gf ι f)).mono (ll _) (fun b _ t=>kV b t) (fun _ _ _=>rfl) (fun _ _ h=>h)
 ·obtain⟨y,d⟩:=v9.mp m;obtain⟨l,d⟩:=mT d;obtain⟨v,xs,n,q,o,E,F⟩:=h.arrs i a f (by rw[d];rfl);refine⟨v,xs,(gf ι l).trans n,q,o,E,fun j e H k c G=>?_⟩;obtain⟨x,C,K⟩:=F j e H k c G;exact⟨x,C,K.mono (ll _) (fun b _ t=>kV b t) (fun _ _ _=>rfl) (fun r p=>(gf ι (fun e=>by
   rw[e]at p;obtain⟨g,T,vs,n,_,_⟩:=h.objs id cs J (by rw[p];rfl);rw[n]at p;cases p)).trans p) (fun _ _=>rfl) (fun h=>h)⟩
 ·have e:i≠id:=fun e=>by grind
  exact⟨(gf ι e).trans (h.pin i y m).1,(h.pin i y m).2⟩
section
variable{m:Cx}{Q:Exit→Act→World→Prop}{n:dt}{s:AS}{d:Array Oper}{f:Func}{p:eb}{i:Nat}
theorem ad0{a:Act}{w:World}{ι:Env}(n:aU m s a w ι){k id:Nat}{cs:c6}(H:look k s.t=some (.ptr id 0))(C:look id s.o=some cs)(I:dW [] cs=true)(A:s.u.contains (da id)=false):aU m (Ii k id cs s) a w (fO ι id):=by
 obtain⟨x,K,r⟩:=n.tmp k _ H;cases r with
 | ptr _ _ _ g q =>
  obtain⟨M,T,vs,l,D,t⟩:=n.hs.objs id cs C (by rw[q];rfl);rw[q]at l;injection l with l;injection l with l;injection l with l;injection l with l;subst l
  refine⟨n.hs.fo (n.hs.np A) C,n.dfr,n.n,fun j v G=>?_⟩;have d:look j (bm k (.cptr cs) (dF id s.t))=some v:=G;rw[cv]at d;split at d
  ·rename_i e;subst e;injection d with d;subst d
   refine⟨_,K,.cptr _ cs g 0 (fun i=>(vs[i]?).getD (.bool true)) (n.hs.own id g (by rw[q];rfl)).2 (fun f=>?_) (fun i=>?_) (fun i c p=>?_) (fun i c p=>?_)⟩
   ·rcases f with f|⟨i,f⟩
    ·exact n.hs.sep f (by rw[q];rfl)
    ·obtain⟨z,f⟩:=kp f;exact z (n.hs.inj i id g f (by rw[q];rfl))
   ·cases e:vs[i]? with
    | none=>rfl
    | some v=>exact t.one v (by rw[←afC]at e;exact mm e)
   ·have o:i<vs.size:=by have:=(jf.1 p).1;rw[t.len]at this;simpa using this
    rw[ald w g _ vs T (0,0) D,Dy];simp[la o]
   ·have o:i<vs.size:=by have:=(jf.1 p).1;rw[t.len]at this;simpa using this
    have B:vs.toList[i]?=some vs[i]:=by simp
    have r:=(t.rel i c _ p B).pure (lH I i c p) bG;have E:=r.mono (N':=NN m.M (fO ι id)) (w':=w) (ll _) (fun b _ f=>kV b f) (fun _ _ _=>rfl) (fun _ _ h=>h);simpa[la o]using E
  ·obtain⟨u,J,rfl⟩:=pM d;obtain⟨y,L,r⟩:=n.tmp j u J;exact⟨y,L,(r.cY (fun i F=>gf ι F)).mono (ll _) (fun b _ f=>kV b f) (fun _ _ _=>rfl) (fun _ _ h=>h)⟩
theorem oJ k id cs{l}(h:OT m Q n d l (Ii k id cs s))(c:look k s.t=some (.ptr id 0):=by kernel_rfl)(e:look id s.o=some cs:=by kernel_rfl)(f:dW [] cs=true:=by kernel_rfl)(b:s.u.contains (da id)=false:=by kernel_rfl):OT m Q n d l s:=fun a w ι g=>h a w _ (ad0 g c e f b)
theorem tY(g:FuncId)(b:Array Operand)(l:c6)(k:OT m Q n d (aV f p (i+1)) (s.put (aW f p i).dst (.fn g l)))(z:aV f p i=aW f p i::aV f p (i+1):=by kernel_rfl)(x:cH d s (aW f p i)=true:=by kernel_rfl)
  (h:(aW f p i).op=.makeFunc (.func g) #[] b:=by kernel_rfl) (v:dk s b.toList=some l:=by kernel_rfl) (e:(cJ m.n (aW f p i).dst&&dW [] l)=true:=by kernel_rfl):OT m Q n d (aV f p i) s:=by
 rw[z];refine fu _ x fun a w ι q=>?_;refine aa6 rfl fun K u=>?_;simp only[iN]at e;obtain⟨A,B⟩:=ln q v;have t:Rel (NN m.M ι) w ι (.fn g l) (.func (.func g) #[] (b.map a.eval)):=by
  have o:=Rel.fn (N:=NN m.M ι) (w:=w) ι g l (b.map a.eval).toList (by simp at A⊢;omega) (fun i c y j r=>(B i c y j (by simpa using r)).pure (lH e.2 i c j) bG);rw[afM]at o;exact o
 unfold Oper.wp execOp;simp only[h,Instr.makeFunc,sj,IT,alw];exact u _ _ (k _ _ _ (q.put (fU e.1) t))
end
def FM(s:AS):AV→Option AV
 | .ref i=>match look i s.r,Nat.ble (i+1) TG with|some ar,true=>some (.sl ar.l)|_,_=>none
 | v=>match v.dg [] with|true=>some (gF v)|false=>none
def sx(s:AS):c6→Option c6
 | []=>some []
 | v::r=>match FM s v,sx s r with|some x,some l=>some (x::l)|_,_=>none
theorem Na{s}:∀{l m},sx s l=some m→m.length=l.length
 | [],m,h=>by injection h with h;grind
 | v::r,m,h=>by
  unfold sx at h;split at h
  ·rename_i x l' b a;injection h with h;subst h;simp[Na a]
  grind
theorem VH{s:AS}:∀{l m:c6},sx s l=some m→∀(i:Nat) (a:AV),m[i]?=some a→∃b,l[i]?=some b∧FM s b=some a
 | [],m,h,i,a,c=>by injection h with h;subst h;simp at c
 | v::r,m,h,i,a,c=>by
  unfold sx at h;split at h
  ·rename_i x l' d e;injection h with h;subst h
   cases i with
   | zero=>grind
   | succ i=>simp_all[VH]
  grind
def Tt(s:AS)(o:Oper):Option (FuncId×c6) :=
 match o.op with
 | .call c=>match c.callee with
  | .value a=>match s.ev a,dk s c.args.toList with
   | some (.fn f aO),some l=>match sx s l with
    | some l'=>some (f,l'++aO)
    | none=>none
   | _,_=>none
  | _=>none
 | _=>none
section
variable{j:Cx}{Q:Exit→Act→World→Prop}{m:dt}{s:AS}{d:Array Oper}{f:Func}{p:eb}{i:Nat}
theorem ad5{g:FuncId}{u:c6}{V:AV}(Z:aX j.P g u (fun v _=>v=V))(k:OT j Q m d (aV f p (i+1)) (s.put (aW f p i).dst V))
  (hl:aV f p i=aW f p i::aV f p (i+1):=by kernel_rfl) (hg:cH d s (aW f p i)=true:=by kernel_rfl) (L:cF j.P g=true:=by kernel_rfl) (r:Tt s (aW f p i)=some (g,u):=by kernel_rfl)
  (M:(cJ j.n (aW f p i).dst&&V.Je)=true:=by kernel_rfl):OT j Q m d (aV f p i) s:=by
 rw[hl];refine fu _ hg fun a w ι G=>?_;refine aa6 rfl fun K Y=>?_;simp only[iN]at M;unfold Tt at r;split at r
 case h_2=>cases r
 rename_i c P;split at r
 case h_2=>cases r
 rename_i fo z;split at r
 case h_2=>cases r
 rename_i f' aO l hf O;split at r
 case h_2=>cases r
 rename_i l' B;injection r with r;injection r with W X;subst W;subst X
 obtain⟨q1,q2⟩:=ln G O;unfold Oper.wp;obtain⟨ys,R,a0,J⟩:=kx (o:={ aW f p i with guard:=none }) G P z hf L;rw[R,aeq];have C:=Na B;have t:l'.length=(c.args.map a.eval).size:=by rw[C,q1];simp
 refine (Z (fun _=>False) w _ (fun b I=>I.elim) ⟨by simp at t⊢;omega,fun i v y D E=>?_⟩).mono ?_
 ·by_cases U:i<l'.length
  ·rw[z3 U]at D;rw[Dk (by rw[←t];exact U)]at E;obtain⟨b,I,q⟩:=VH B i v D;have T:(c.args.toList.map a.eval)[i]?=some y:=by rw[←afC,aj6]at E;exact E
   have F:=q2 i b y I T;unfold FM at q;split at q
   ·rename_i id;split at q
    ·rename_i ar H S;injection q with q;subst q
     cases F with
     | ref _ _ A n c h=>exact(G.hs.tF (j3 S) H A n c h bG).mono (ll _) (fun _ _ h=>h.elim) (fun _ _ _=>rfl) (fun _ _ h=>h)
    ·cases q
   ·split at q
    ·rename_i hp;injection q with q;subst q
     exact zh ((F.pure hp bG).mono (ll _) (fun _ _ h=>h.elim) (fun _ _ _=>rfl) (fun _ _ h=>h))
    ·cases q
  ·rw[Dj (by omega)]at D;rw[ajx (by rw[←t];omega)]at E;rw[t]at D;exact(J _ v y D (by simpa using E)).mono (ll _) (fun _ _ h=>h.elim) (fun _ _ _=>rfl) (fun _ _ h=>h)
 ·rintro e w' ⟨x,v,s1,ι1,rfl,rfl,N,F⟩
  exact Y _ _ (k _ _ _ ((G.mz N.below.plain).put (fU M.1) (PW M.2 F)))
end
abbrev iI(x:Int):AV:=.int .i64 x
abbrev gD{α:Type}[Inhabited α](L:List α)(i:Int):α:=List.getD L i.toNat default
def yV(b:Nat→Bool):Nat→Nat→Bool
 | _,0=>true
 | lo,k+1=>b lo&&yV b (lo+1) k
theorem So{b}:∀{lo k},yV b lo k=true→ey lo k fun j=>b j=true
 | _,0,_=>trivial
 | lo,k+1,h=>by
  unfold yV at h;rw[iN]at h;exact⟨h.1,So h.2⟩
theorem aC{P}{n:Nat}{c}{a}{K}{b}{o} lo k(f:o.guard.isSome=true:=by kernel_rfl)(h:yV (fun j=>Ev a (nth b j) o) lo k=true:=by kernel_rfl)
  (e:yV (fun j=>(match o.dst with|some d=>(match look d (nth b j).t with|none=>true|some (.tup [])=>Nat.ble (d+1) n|_=>false)|none=>true)) 0 (K+1)=true:=by kernel_rfl):fv P n c a K b o (.off lo k) :=by grind[aiY,So]
def vz(n:Nat):er:=List.replicate n (.v 0 1)
theorem cS{P}{n}{f}{c}{K}{a}{o}(lo d:Nat){e b}(g:e=b)(i:cH c (nth a lo) o=true:=by kernel_rfl)(h:cb P n (nth a lo) o=some ((nth a lo).put (some d) (.bool e)):=by kernel_rfl)(j:(nth a lo).put (some d) (.bool b)=nth a lo:=by kernel_rfl):
  fv P n f c K a o (.v lo 1) :=by grind[gV,dZ,Yk,iw]
def nu:Nat→c6→h8
 | _,[]=>[]
 | k,x::l=>(k,x)::nu (k+1) l
abbrev lm{α β:Type}(f:α→β)(l:List α):List β:=List.map f l
theorem bF{P}{f}{b}{a}{Q}{n} c(g:P.funcs[f]?=some b)(j:b.ntmps=n)(h:∀M d,VE ⟨P,n,M,d⟩ (bodyPost P b (bJ M d Q)) [.c c] .normal ⟨idxs 0 a,[],[],[]⟩)
  (e:b.body=some c:=by kernel_rfl) (i:decide (a.length≤n)=true:=by kernel_rfl):aX P f a Q :=by grind[acX]
theorem bd{a}{Q}{b}{e}{s} s'(h:VE a Q b e s')(c:s=s':=by kernel_rfl):VE a Q b e s:=c ▸ h
theorem cK{P}{n}{s}{o}{α:Type}[Inhabited α] id sz enc{L:List α}{i}{m}(a:aP i m=true)(b:L.length=m:=by simp only[akz])(h:Jt P n s o=some (id,sz,i,L.map enc):=by kernel_rfl):cb P n s o=some (s.put o.dst (.eptr id sz i.toNat 0)) :=by grind[ct]
theorem bi{P}{n}{c}{a}{K}{b}{f}{p}{i}{ts}{s'}(h:cb P n (nth b 0) (aW f p i)=some s')(d:fd P n c a K b (aV f p (i+1)) ts)(e:s'=nth b 0:=by kernel_rfl)(g:cH a (nth b 0) (aW f p i)=true:=by kernel_rfl)
  (j:aV f p i=aW f p i::aV f p (i+1):=by kernel_rfl):fd P n c a K b (aV f p i) (.v 0 1::ts):=aj (Bl h e g) d j
def NM:Nat→Nat→eb→eb
 | 0,_,l=>l
 | k+1,x,l=>match Nat.ble x 1 with
  | true=>l
  | false=>NM k (x / 2) (x % 2::l)
def pn(x:Nat):eb:=NM 90 x []
def wq(n q:Nat):Nat:=n*2 ^ q.log2+(q-2 ^ q.log2)
section
variable{e:Cx}{Q:Exit→Act→World→Prop}{g:dt}{s:AS}{f:Func}{n:Nat}
abbrev cP(f:Func)(n:Nat):aq:=.c (cat f (pn n))
theorem av a b k(c:VE e Q (cP f (wq n a)::cP f (wq n b)::g) .normal (gv e.P e.n k (cP f n::g) .normal s))(h:gw e.P e.n k (cP f n::g) .normal s=some (cP f (wq n a)::cP f (wq n b)::g,.normal):=by kernel_rfl):VE e Q (cP f n::g) .normal s:=b8 k c h
theorem bg a k(b:VE e Q (cP f (wq n a)::g) .normal (gv e.P e.n k (cP f n::g) .normal s))(h:gw e.P e.n k (cP f n::g) .normal s=some (cP f (wq n a)::g,.normal):=by kernel_rfl):VE e Q (cP f n::g) .normal s:=b8 k b h
theorem du a b c d k(i:VE e Q (cP f (wq n a)::cP f (wq n b) :: .b c::cP f (wq n d)::g) .normal (gv e.P e.n k (cP f n::g) .normal s))(h:gw e.P e.n k (cP f n::g) .normal s=some (cP f (wq n a)::cP f (wq n b) :: .b c::cP f (wq n d)::g,.normal):=by kernel_rfl):VE e Q (cP f n::g) .normal s:=b8 k i h
theorem cc a b c k(d:VE e Q (cP f (wq n a)::cP f (wq n b)::cP f (wq n c)::g) .normal (gv e.P e.n k (cP f n::g) .normal s))(h:gw e.P e.n k (cP f n::g) .normal s=some (cP f (wq n a)::cP f (wq n b)::cP f (wq n c)::g,.normal):=by kernel_rfl):VE e Q (cP f n::g) .normal s:=b8 k d h
theorem gn a b c k(d:VE e Q (cP f (wq n a) :: .b b::cP f (wq n c)::g) .normal (gv e.P e.n k (cP f n::g) .normal s))(h:gw e.P e.n k (cP f n::g) .normal s=some (cP f (wq n a) :: .b b::cP f (wq n c)::g,.normal):=by kernel_rfl):VE e Q (cP f n::g) .normal s:=b8 k d h
theorem ib a b k(c:VE e Q (cP f (wq n a) :: .b b::g) .normal (gv e.P e.n k (cP f n::g) .normal s))(h:gw e.P e.n k (cP f n::g) .normal s=some (cP f (wq n a) :: .b b::g,.normal):=by kernel_rfl):VE e Q (cP f n::g) .normal s:=b8 k c h
theorem Qo{d i j} a b c k(l:VE e Q (cP f (wq n a)::cP f (wq n b)::cP f (wq n c)::g) .normal (gv e.P e.n k (d::i::j::cP f n::g) .normal s))(h:gw e.P e.n k (d::i::j::cP f n::g) .normal s=some (cP f (wq n a)::cP f (wq n b)::cP f (wq n c)::g,.normal):=by kernel_rfl):VE e Q (d::i::j::cP f n::g) .normal s:=b8 k l h
theorem gH{c d i j} a b k(l:VE e Q (cP f (wq n a)::cP f (wq n b)::g) .normal (gv e.P e.n k (c::d::i::j::cP f n::g) .normal s))(h:gw e.P e.n k (c::d::i::j::cP f n::g) .normal s=some (cP f (wq n a)::cP f (wq n b)::g,.normal):=by kernel_rfl):VE e Q (c::d::i::j::cP f n::g) .normal s:=b8 k l h
theorem cN{i} a b c d k(j:VE e Q (cP f (wq n a)::cP f (wq n b) :: .b c::cP f (wq n d)::g) .normal (gv e.P e.n k (i::cP f n::g) .normal s))(h:gw e.P e.n k (i::cP f n::g) .normal s=some (cP f (wq n a)::cP f (wq n b) :: .b c::cP f (wq n d)::g,.normal):=by kernel_rfl):VE e Q (i::cP f n::g) .normal s:=b8 k j h
theorem fq{c} a b k(d:VE e Q (cP f (wq n a)::cP f (wq n b)::g) .normal (gv e.P e.n k (c::cP f n::g) .normal s))(h:gw e.P e.n k (c::cP f n::g) .normal s=some (cP f (wq n a)::cP f (wq n b)::g,.normal):=by kernel_rfl):VE e Q (c::cP f n::g) .normal s:=b8 k d h
theorem IG{d} a b c k(i:VE e Q (cP f (wq n a) :: .b b::cP f (wq n c)::g) .normal (gv e.P e.n k (d::cP f n::g) .normal s))(h:gw e.P e.n k (d::cP f n::g) .normal s=some (cP f (wq n a) :: .b b::cP f (wq n c)::g,.normal):=by kernel_rfl):VE e Q (d::cP f n::g) .normal s:=b8 k i h
theorem rF{d} a b c k(i:VE e Q (cP f (wq n a)::cP f (wq n b)::cP f (wq n c)::g) .normal (gv e.P e.n k (d::cP f n::g) .normal s))(h:gw e.P e.n k (d::cP f n::g) .normal s=some (cP f (wq n a)::cP f (wq n b)::cP f (wq n c)::g,.normal):=by kernel_rfl):VE e Q (d::cP f n::g) .normal s:=b8 k i h
theorem tS{d i j l} a b c k(m:VE e Q (cP f (wq n a)::cP f (wq n b)::cP f (wq n c)::g) .normal (gv e.P e.n k (d::i::j::l::cP f n::g) .normal s))(h:gw e.P e.n k (d::i::j::l::cP f n::g) .normal s=some (cP f (wq n a)::cP f (wq n b)::cP f (wq n c)::g,.normal):=by kernel_rfl):VE e Q (d::i::j::l::cP f n::g) .normal s:=b8 k m h
end
end Go.Proofs.YtocgkfoifehcbaaGreat

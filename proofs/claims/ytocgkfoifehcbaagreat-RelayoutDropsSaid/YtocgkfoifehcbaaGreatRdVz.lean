/- Calls that turn a slice of the caller's. No program in sight. -/
import Derived.Test.YtocgkfoifehcbaaGreatRdVy
namespace Go.Proofs.YtocgkfoifehcbaaGreat
set_option linter.all false
open Go.RowKit
def nN(w:World)(id0:Nat)(v0:Value):aB:=⟨w,fun g=>bu (some v0)=some g,fun i=>if i=id0 then some v0 else none⟩
def wh(P:Program)(f:FuncId)(d:c6)(id0:Nat)(ar:cj)(Q:AV→AS→Prop):Prop :=
 ∀M w xs v0 g,(∀b,M b→b<w.heap.size∧bu (some v0)≠some b)→w.ownsRow 0 ar.e ar.sz v0 ar.l.length g→(∀e∈ar.l,e.length=ar.sz)→(∀x∈g,x.oneCell'=true) →
  (∀j e,ar.l[j]?=some e→∀i c,e[i]?=some c→∃x,g[j*ar.sz+i]?=some x∧Rel (NN M (ext bH id0 v0)) w bH c x) →
  d.length=xs.size→(∀(i:Nat) a x,d[i]?=some a→xs[i]?=some x→Rel (NN M (ext bH id0 v0)) w (ext bH id0 v0) a x)→Calls P f xs w (bI M (nN w id0 v0) Q)
theorem Fp{w:World}{e}{sz n}{v}{k}(h:w.ownsRow 0 e sz v n k){g}(a:bu (some v)=some g):g<w.heap.size:=by
 obtain⟨b,_⟩|⟨f,c,d,b,_,j,_⟩:=h.2
 ·rw[b]at a;cases a
 ·rw[b]at a;have i:some f=some g:=a
  grind
theorem BT{P:Program}{f:FuncId}{s:Func}{c:Code}{d:c6}{id0:Nat}{ar:cj}{Q:AV→AS→Prop}(N:P.funcs[f]?=some s)(A:s.body=some c)(n:Nat)(W:s.ntmps=n)(V:d.length≤n)
  (h:∀M H,VE ⟨P,n,M,H⟩ (bodyPost P s (bI M H Q)) [.c c] .normal ⟨idxs 0 d,[],[(id0,ar)],[id0,da id0]⟩):wh P f d id0 ar Q:=by
 intro M w xs v0 U K p u z B E F;refine al1 N A ?_;have G:∀i y,ext bH id0 v0 i=some y→i=id0∧y=v0:=fun i y q=>by
  by_cases e:i=id0
  ·subst e;rw[cJ]at q;injection q with q;exact⟨rfl,q.symm⟩
  ·rw[bS _ _ e]at q;cases q
 have m:∀i g,bu (ext bH id0 v0 i)=some g→i=id0∧bu (some v0)=some g:=fun i g o=>by
  cases t:ext bH id0 v0 i with
  | none=>rw[t]at o;cases o
  | some y=>obtain⟨I,J⟩:=G i y t;rw[t,J]at o;exact⟨I,o⟩
 refine am3 (h M (nN w id0 v0) { tmps:=xs++Array.replicate (s.ntmps-xs.size) undef,defers:=[] } w (ext bH id0 v0) ?_) (fun e a w' O=>?_)
 ·refine⟨⟨⟨rfl,rfl,rfl,la _,fun _ _ _=>rfl⟩,fun b A=>K b A,fun i y q=>?_,fun i g o=>⟨.inr (m i g o).2,Fp p (m i g o).2⟩,fun i T g o C=>(m i g o).1.trans (m T g C).1.symm,fun i cs hi=>(by cases hi),fun i a hi=>?_,fun i cs hi=>(by cases hi),fun i a hi X=>?_,fun i v S=>?_⟩,rfl,?_,fun k v D=>?_⟩
  ·rw[(G i y q).1];exact ft (by simp)
  ·simp only[look]at hi;split at hi
   ·rename_i e;subst e;exact ft (by simp)
   ·cases hi
  ·simp only[look]at hi;split at hi
   ·rename_i e;subst e;injection hi with hi;subst hi
    exact⟨v0,U,cJ _ _ _,p,u,z,fun j e t k c L=>by obtain⟨x,F,R⟩:=B j e t k c L;exact⟨x,F,.inl R⟩⟩
   ·cases hi
  ·have l:(if i=id0 then some v0 else none)=some v:=S;split at l
   ·rename_i e;subst e;injection l with l;subst l
    exact⟨cJ _ _ _,by simp⟩
   ·cases l
  ·simp;omega
  ·rw[qf,lp (u4 _),ale]at D;have r:k<xs.size:=by rw[←E];exact(jt.1 D).1
   refine⟨xs[k],?_,F k v _ D (ll r)⟩;simp only[];rw[Dz r,ll r]
 ·cases e<;>exact O
theorem HS.back{M:Nat→Prop}{U:aB}{w w':World}{ι F:Env}{s S:AS}(h:HS M U w ι s){id id0:Nat}{ar m:cj}{v0:Value}(a0:id0<TG)(I:look id s.r=some ar)(p:ι id=some v0)
  (q:HS (fun b=>NN M ι b∧bu (some v0)≠some b) (nN w id0 v0) w' F S) (J:look id0 S.r=some m):HS M U w' ι (d8 id m s)∧(∀b,NN M ι b→NN (fun b=>NN M ι b∧bu (some v0)≠some b) F b)∧(∀b,b<w.heap.size→¬ NN M ι b→w'.heap[b]?=w.heap[b]?)∧w.heap.size≤w'.heap.size:=by
 have u:F id0=some v0:=(q.pin id0 v0 (by simp[nN])).1;have C:∀b,NN M ι b→NN (fun b=>NN M ι b∧bu (some v0)≠some b) F b:=fun b n=>by
  by_cases e:bu (some v0)=some b
  ·exact .inr ⟨id0,by rw[u];exact e⟩
  ·exact .inl ⟨n,e⟩
 have o:w.heap.size≤w'.heap.size:=q.below.size;have B:∀b,b<w.heap.size→bu (some v0)≠some b→w'.heap[b]?=w.heap[b]?:=fun b t n=>q.below.block b t n;have f:∀b,b<w.heap.size→¬ NN M ι b→w'.heap[b]?=w.heap[b]?:=fun b t n=>B b t (fun e=>n (.inr ⟨id,by rw[p];exact e⟩));refine⟨⟨?_,h.old,h.use,fun i g D=>⟨(h.own i g D).1,wl (h.own i g D).2 o⟩,h.inj,h.ko,fun i a hi=>?_,fun i cs hi N=>?_,fun i a hi N=>?_,h.pin⟩,C,f,o⟩
 ·refine h.below.trans ⟨q.below.os,q.below.tape,q.below.output,o,fun k z Z=>B k (wl z h.below.size) (fun e=>?_)⟩;rcases (h.own id k (by rw[p];exact e)).1 with H|H
  ·exact absurd z (akX.2 H)
  ·exact Z H
 ·have d:look i (bd id m s.r)=some a:=hi;rw[cn]at d;split at d
  ·rename_i e;subst e;exact h.kr i ar I
  ·exact h.kr i a d
 ·obtain⟨g,T,vs,y,W,X⟩:=h.objs i cs hi N;have L:bu (some v0)≠some g:=fun e=>by
   have:=h.inj i id g (by rw[y];rfl) (by rw[p];exact e);subst this;rw[y]at p;injection p with p;subst p
   obtain⟨v,xs,l,E,_⟩:=h.arrs i ar I (by rw[y];rfl);rw[y]at l;injection l with l;subst l
   rcases E.2 with⟨A,_⟩|⟨_,_,_,A,_⟩<;>cases A
  exact⟨g,T,vs,y,(B g (h.own i g (by rw[y];rfl)).2 L).trans W,X.mono o (fun b _ n=>n) f (fun _ _ h=>h)⟩
 ·have d:look i (bd id m s.r)=some a:=hi;rw[cn]at d;split at d
  ·rename_i e;subst e;injection d with d;subst d
   obtain⟨v,xs,l,E,A,Q,R⟩:=q.arrs id0 m J (by rw[u];rfl);rw[u]at l;injection l with l;subst l
   refine⟨v0,xs,p,E,A,Q,fun j e K k c z=>?_⟩;obtain⟨x,P,O⟩:=R j e K k c z;exact⟨x,P,.inl ((O.flat (by omega)).mono (la _) (fun b _ n=>C b n) (fun _ _ _=>rfl) (fun _ _ h=>h))⟩
  ·rename_i e;obtain⟨v,xs,l,E,A,Q,R⟩:=h.arrs i a d N;refine⟨v,xs,l,fK E (fun g D=>B g (h.own i g (by rw[l];exact D)).2 (fun V=>e (h.inj i id g (by rw[l];exact D) (by rw[p];exact V)))),A,Q,fun j Y K k c z=>?_⟩;obtain⟨x,P,O⟩:=R j Y K k c z;exact⟨x,P,O.mono o (fun b _ n=>n) f (fun _ h=>h) (fun r G=>B r (h.j6 G) (fun e=>by
    have:=h.inj _ id r (by rw[G];rfl) (by rw[p];exact e);exact h.ya I G this)) (fun h=>h)⟩
def BM(id id0:Nat):AV→Option AV
 | .ref i=>match Nat.beq i id with|true=>some (.ref id0)|false=>none
 | v=>match v.de [] with|true=>some (gu v)|false=>none
def vj(id id0:Nat):c6→Option c6
 | []=>some []
 | v::r=>match BM id id0 v,vj id id0 r with|some x,some l=>some (x::l)|_,_=>none
def VU(s:AS)(o:Oper)(id id0:Nat):Option (FuncId×c6) :=
 match o.op with
 | .call c=>match c.callee with
  | .value a=>match s.ev a,dj s c.args.toList with
   | some (.fn f []),some l=>match vj id id0 l with
    | some l'=>some (f,l')
    | none=>none
   | _,_=>none
  | _=>none
 | _=>none
theorem Q8{id id0}:∀{l l'},vj id id0 l=some l'→l'.length=l.length
 | [],_,h=>by injection h with h;grind
 | v::r,l',h=>by
  unfold vj at h;split at h
  ·rename_i b a;injection h with h;subst h;simp[Q8 a]
  grind
theorem K8{id id0}:∀{l l'},vj id id0 l=some l'→∀(i:Nat) a,l'[i]?=some a→∃b,l[i]?=some b∧BM id id0 b=some a
 | [],_,h,i,a,c=>by injection h with h;grind
 | v::r,l',h,i,a,c=>by
  unfold vj at h;split at h
  ·rename_i e d;injection h with h;subst h
   cases i with
   | zero=>grind
   | succ i=>exact K8 d i a c
  grind
theorem vF{b}{s}{c}{R}(h:VE b (bodyPost b.P c R) [] .ret s):VE b (bodyPost b.P c R) [] .normal s:=fun a w ι d=>h a w ι d
def z6(id0:Nat):c6→Bool
 | []=>false
 | .ref i::r=>Nat.beq i id0||z6 id0 r
 | _::r=>z6 id0 r
theorem K9{id0}:∀{l},z6 id0 l=true→∃i:Nat,l[i]?=some (.ref id0)
 | [],h=>by cases h
 | v::r,h=>by
  unfold z6 at h;split at h
  ·grind
  ·rename_i i e a;injection a with d b;subst d;subst b
   simp only[Dk]at h;rcases h with h|h
   ·have:=nx h;subst this;exact⟨0,rfl⟩
   ·obtain⟨j,c⟩:=K9 h;exact⟨j+1,c⟩
  ·rename_i a;injection a with d b;subst b
   obtain⟨j,c⟩:=K9 h;exact⟨j+1,c⟩
theorem VB{id id0}{b a}(h:BM id id0 b=some a):(b=.ref id∧a=.ref id0)∨(b.de []=true∧a=gu b):=by
 unfold BM at h;split at h
 ·split at h
  ·simp_all
  grind
 grind
theorem Ym{b}{id0}(h:gu b=.ref id0)(a:b.de []=true):False:=by
 cases b<;>first|grind|(simp[AV.de]at a;done)|(cases h)
theorem bU{α β:Type}{x}{f:α→Option β}{r}(h:(some x).bind f=some r):∃v,x=v∧f v=some r :=by grind
section
variable{d:Cx}{Q:Exit→Act→World→Prop}{q:dt}{s:AS}{m:Array Oper}{f:Func}{p:ed}{i:Nat}
theorem tq(id id0:Nat){g:FuncId}{u:c6}{V:AV}{ar D:cj}(S:wh d.P g u id0 ar (fun v s1=>v=V∧look id0 s1.r=some D))(k:OT d Q q m (aU f p (i+1)) ((d8 id D s).put (aS f p i).dst V))
  (hl:aU f p i=aS f p i::aU f p (i+1):=by kernel_rfl) (hg:cC m s (aS f p i)=true:=by kernel_rfl) (U:cI d.P g=true:=by kernel_rfl) (t:VU s (aS f p i) id id0=some (g,u):=by kernel_rfl)
  (ha:look id s.r=some ar:=by kernel_rfl) (W:(cK d.n (aS f p i).dst&&V.de [])=true:=by kernel_rfl) (M:z6 id0 u=true:=by kernel_rfl) (z:(Nat.ble (id+1) TG&&Nat.ble (id0+1) TG)=true:=by kernel_rfl):OT d Q q m (aU f p i) s:=by
 rw[hl];refine eU _ hg fun a w ι I=>?_;refine Ts rfl fun K hK=>?_;simp only[iO]at W;unfold VU at t;split at t
 case h_2=>cases t
 rename_i c Z;split at t
 case h_2=>cases t
 rename_i fo J;split at t
 case h_2=>cases t
 rename_i f' l hf Y;split at t
 case h_2=>cases t
 rename_i l' F;injection t with t;injection t with e1 e2;subst e1;subst e2
 obtain⟨q1,q2⟩:=lr I Y;have B:∀(i:Nat) (b:AV),l[i]?=some b→∃y,(c.args.map a.eval)[i]?=some y∧Rel (NN d.M ι) w ι b y:=fun i b r=>by
  have e0:i<l.length:=(jt.1 r).1;have L:i<(c.args.toList.map a.eval).length:=by have d0:=q1;simp only[nw]at d0⊢;omega
  have H:=j3 L;exact⟨_,by rw[←aix,akW];exact H,q2 i b _ r H⟩
 obtain⟨j,hj⟩:=K9 M;obtain⟨b,r,E⟩:=K8 F j _ hj;obtain⟨v0,O⟩:∃v0,ι id=some v0:=by
  obtain⟨rfl,_⟩|⟨hp,hz⟩:=VB E
  ·obtain⟨y,_,C⟩:=B j _ r;cases C with
   | ref _ _ A n c h=>exact⟨_,h⟩
  ·exact(Ym hz.symm hp).elim
 obtain⟨v1,xs,P,r2,r3,r4,r5⟩:=I.hs.arrs id ar ha (by rw[O];rfl);rw[O]at P;injection P with P;subst P
 have hN:∀b,NN (fun b=>NN d.M ι b∧bu (some v0)≠some b) (ext bH id0 v0) b→NN d.M ι b:=fun b r=>by
  rcases r with r|⟨i,r⟩
  ·exact r.1
  ·by_cases e:i=id0
   ·subst e;rw[cJ]at r;exact .inr ⟨id,by rw[O];exact r⟩
   ·rw[bS _ _ e]at r;cases r
 unfold Oper.wp;obtain⟨ys,a0,T,_⟩:=kF (o:={ aS f p i with guard:=none }) I Z J hf U;have c0:ys=[]:=qk (by simpa using T.symm);subst c0;have b0:c.args.map a.eval++([]:eg).toArray=c.args.map a.eval:=by simp
 rw[a0,ahR,b0];refine (S (fun b=>NN d.M ι b∧bu (some v0)≠some b) w _ v0 xs (fun b r=>⟨ml I.hs r.1,r.2⟩) r2 r3 r4 (fun j e he i c S=>?_) ?_ (fun i a' x R hx=>?_)).mono ?_
 ·obtain⟨x,hx,C⟩:=r5 j e he i c S;rw[iO]at z;have:=kb z.1;exact⟨x,hx,(C.flat (by omega)).mono (la _) (fun b _ r=>hN b r) (fun _ _ _=>rfl) (fun _ _ h=>h)⟩
 ·rw[Q8 F];simp at q1⊢;omega
 ·obtain⟨b,r,E⟩:=K8 F i _ R;obtain⟨y,H,C⟩:=B i b r;rw[hx]at H;injection H with H;subst H
  obtain⟨rfl,rfl⟩|⟨hp,rfl⟩:=VB E
  ·cases C with
   | ref _ _ A n c h =>
    rw[O]at h;injection h with h;subst h
    exact .ref _ _ _ _ _ (cJ _ _ _)
  ·exact xT ((C.pure hp (ext bH id0 v0)).mono (la _) (fun b _ r=>hN b r) (fun _ _ _=>rfl) (fun _ _ h=>h))
 ·rintro e w' ⟨x,v,s1,ι1,rfl,⟨rfl,G⟩,X,C⟩
  rw[iO]at z;obtain⟨g1,g2,g3,g4⟩:=I.hs.back (kb z.2) ha O X G;have h3:Rel (NN d.M ι) w' ι v x:=(C.pure W.2 ι).mono (la _) (fun b _ r=>g2 b r) (fun _ _ _=>rfl) (fun _ _ h=>h);have N:aV d (d8 id D s) a w' ι:=I.world g1 rfl g4 (fun b _ r=>r) g3 (fun _ _ h=>h);exact hK _ _ (k _ _ _ (N.put (fX W.1) h3))
end
def E7(k id:Nat)(cs:c6)(s:AS):AS:={ t:=bd k (.cptr cs) (dw id s.t),o:=eV id s.o,r:=s.r,u:=s.u }
theorem HS.fo{M:Nat→Prop}{C:aB}{w:World}{ι:Env}{s:AS}(h:HS M C w ι s){k id:Nat}{cs:c6}(H:C.pv id=none)(I:look id s.o=some cs):HS M C w (fH ι id) (E7 k id cs s):=by
 refine⟨h.below,h.old,fun i y d=>h.use i y (nl d).2,fun i g t=>h.own i g (kg t).2,fun i L g t z=>h.inj i L g (kg t).2 (kg z).2,fun i cs hi=>?_,h.kr,fun i cs hi l=>?_,fun i a hi l=>?_,fun i y l=>?_⟩
 ·obtain⟨u,A,_⟩:=jB hi;exact h.ko i u A
 ·obtain⟨u,A,rfl⟩:=jB hi;obtain⟨y,d⟩:=w3.mp l;obtain⟨f,d⟩:=nl d;obtain⟨g,T,vs,m,p,n⟩:=h.objs i u A (by rw[d];rfl);refine⟨g,T,vs,(gj ι f).trans m,p,by rw[l5];exact n.len,n.one,fun j x v B K=>?_⟩;obtain⟨y,d,rfl⟩:=lq B;exact((n.rel j y v d K).cO (fun i hi=>gj ι hi)).mono (la _) (fun b _ q=>kA b q) (fun _ _ _=>rfl) (fun _ _ h=>h)
 ·obtain⟨y,d⟩:=w3.mp l;obtain⟨f,d⟩:=nl d;obtain⟨v,xs,m,p,n,D,E⟩:=h.arrs i a hi (by rw[d];rfl);refine⟨v,xs,(gj ι f).trans m,p,n,D,fun j e G k c F=>?_⟩;obtain⟨x,B,J⟩:=E j e G k c F;exact⟨x,B,J.mono (la _) (fun b _ q=>kA b q) (fun _ _ _=>rfl) (fun r o=>(gj ι (fun e=>by
   rw[e]at o;obtain⟨g,T,vs,m,_,_⟩:=h.objs id cs I (by rw[o];rfl);rw[m]at o;cases o)).trans o) (fun _ _=>rfl) (fun h=>h)⟩
 ·have e:i≠id:=fun e=>by grind
  exact⟨(gj ι e).trans (h.pin i y l).1,(h.pin i y l).2⟩
section
variable{m:Cx}{Q:Exit→Act→World→Prop}{n:dt}{s:AS}{d:Array Oper}{f:Func}{p:ed}{i:Nat}
theorem aal{a:Act}{w:World}{ι:Env}(n:aV m s a w ι){k id:Nat}{cs:c6}(G:look k s.t=some (.ptr id 0))(C:look id s.o=some cs)(H:dV [] cs=true)(A:s.u.contains (da id)=false):aV m (E7 k id cs s) a w (fH ι id):=by
 obtain⟨x,J,r⟩:=n.tmp k _ G;cases r with
 | ptr _ _ _ g q =>
  obtain⟨L,T,vs,l,D,t⟩:=n.hs.objs id cs C (by rw[q];rfl);rw[q]at l;injection l with l;injection l with l;injection l with l;injection l with l;subst l
  refine⟨n.hs.fo (n.hs.np A) C,n.dfr,n.n,fun j v F=>?_⟩;have d:look j (bd k (.cptr cs) (dw id s.t))=some v:=F;rw[cn]at d;split at d
  ·rename_i e;subst e;injection d with d;subst d
   refine⟨_,J,.cptr _ cs g 0 (fun i=>(vs[i]?).getD (.bool true)) (n.hs.own id g (by rw[q];rfl)).2 (fun f=>?_) (fun i=>?_) (fun i c p=>?_) (fun i c p=>?_)⟩
   ·rcases f with f|⟨i,f⟩
    ·exact n.hs.sep f (by rw[q];rfl)
    ·obtain⟨z,f⟩:=kg f;exact z (n.hs.inj i id g f (by rw[q];rfl))
   ·cases e:vs[i]? with
    | none=>rfl
    | some v=>exact t.one v (by rw[←aix]at e;exact mm e)
   ·have o:i<vs.size:=by have:=(jt.1 p).1;rw[t.len]at this;simpa using this
    rw[alJ w g _ vs T (0,0) D,IF];simp[ll o]
   ·have o:i<vs.size:=by have:=(jt.1 p).1;rw[t.len]at this;simpa using this
    have B:vs.toList[i]?=some vs[i]:=by simp
    have r:=(t.rel i c _ p B).pure (lY H i c p) bH;have E:=r.mono (N':=NN m.M (fH ι id)) (w':=w) (la _) (fun b _ f=>kA b f) (fun _ _ _=>rfl) (fun _ _ h=>h);simpa[ll o]using E
  ·obtain⟨u,I,rfl⟩:=ow d;obtain⟨y,K,r⟩:=n.tmp j u I;exact⟨y,K,(r.cO (fun i hi=>gj ι hi)).mono (la _) (fun b _ f=>kA b f) (fun _ _ _=>rfl) (fun _ _ h=>h)⟩
theorem ld k id cs{l}(h:OT m Q n d l (E7 k id cs s))(c:look k s.t=some (.ptr id 0):=by kernel_rfl)(e:look id s.o=some cs:=by kernel_rfl)(f:dV [] cs=true:=by kernel_rfl)(b:s.u.contains (da id)=false:=by kernel_rfl):OT m Q n d l s:=fun a w ι g=>h a w _ (aal g c e f b)
theorem nO(g:FuncId)(b:Array Operand)(l:c6)(k:OT m Q n d (aU f p (i+1)) (s.put (aS f p i).dst (.fn g l)))(z:aU f p i=aS f p i::aU f p (i+1):=by kernel_rfl)(x:cC d s (aS f p i)=true:=by kernel_rfl)
  (h:(aS f p i).op=.makeFunc (.func g) #[] b:=by kernel_rfl) (v:dj s b.toList=some l:=by kernel_rfl) (e:(cK m.n (aS f p i).dst&&dV [] l)=true:=by kernel_rfl):OT m Q n d (aU f p i) s:=by
 rw[z];refine eU _ x fun a w ι q=>?_;refine Ts rfl fun K u=>?_;simp only[iO]at e;obtain⟨A,B⟩:=lr q v;have t:Rel (NN m.M ι) w ι (.fn g l) (.func (.func g) #[] (b.map a.eval)):=by
  have o:=Rel.fn (N:=NN m.M ι) (w:=w) ι g l (b.map a.eval).toList (by simp at A⊢;omega) (fun i c y j r=>(B i c y j (by simpa using r)).pure (lY e.2 i c j) bH);rw[aiU]at o;exact o
 unfold Oper.wp execOp;simp only[h,Instr.makeFunc,sj,Qf,al0];exact u _ _ (k _ _ _ (q.put (fX e.1) t))
end
def JO(s:AS):AV→Option AV
 | .ref i=>match look i s.r,Nat.ble (i+1) TG with|some ar,true=>some (.sl ar.l)|_,_=>none
 | v=>match v.de [] with|true=>some (gu v)|false=>none
def ux(s:AS):c6→Option c6
 | []=>some []
 | v::r=>match JO s v,ux s r with|some x,some l=>some (x::l)|_,_=>none
theorem Rj{s}:∀{l m},ux s l=some m→m.length=l.length
 | [],m,h=>by injection h with h;grind
 | v::r,m,h=>by
  unfold ux at h;split at h
  ·rename_i x l' b a;injection h with h;subst h;simp[Rj a]
  grind
theorem T4{s:AS}:∀{l m:c6},ux s l=some m→∀(i:Nat) (a:AV),m[i]?=some a→∃b,l[i]?=some b∧JO s b=some a
 | [],m,h,i,a,c=>by injection h with h;subst h;simp at c
 | v::r,m,h,i,a,c=>by
  unfold ux at h;split at h
  ·rename_i x l' d e;injection h with h;subst h
   cases i with
   | zero=>grind
   | succ i=>simp_all[T4]
  grind
def M4(s:AS)(o:Oper):Option (FuncId×c6) :=
 match o.op with
 | .call c=>match c.callee with
  | .value a=>match s.ev a,dj s c.args.toList with
   | some (.fn f aR),some l=>match ux s l with
    | some l'=>some (f,l'++aR)
    | none=>none
   | _,_=>none
  | _=>none
 | _=>none
section
variable{j:Cx}{Q:Exit→Act→World→Prop}{m:dt}{s:AS}{d:Array Oper}{f:Func}{p:ed}{i:Nat}
theorem Ny{g:FuncId}{u:c6}{V:AV}(Y:aY j.P g u (fun v _=>v=V))(k:OT j Q m d (aU f p (i+1)) (s.put (aS f p i).dst V))
  (hl:aU f p i=aS f p i::aU f p (i+1):=by kernel_rfl) (hg:cC d s (aS f p i)=true:=by kernel_rfl) (L:cI j.P g=true:=by kernel_rfl) (r:M4 s (aS f p i)=some (g,u):=by kernel_rfl)
  (M:(cK j.n (aS f p i).dst&&V.Gb)=true:=by kernel_rfl):OT j Q m d (aU f p i) s:=by
 rw[hl];refine eU _ hg fun a w ι G=>?_;refine Ts rfl fun K X=>?_;simp only[iO]at M;unfold M4 at r;split at r
 case h_2=>cases r
 rename_i c P;split at r
 case h_2=>cases r
 rename_i fo z;split at r
 case h_2=>cases r
 rename_i f' aR l hf O;split at r
 case h_2=>cases r
 rename_i l' B;injection r with r;injection r with U W;subst U;subst W
 obtain⟨q1,q2⟩:=lr G O;unfold Oper.wp;obtain⟨ys,R,Z,J⟩:=kF (o:={ aS f p i with guard:=none }) G P z hf L;rw[R,ahR];have C:=Rj B;have t:l'.length=(c.args.map a.eval).size:=by rw[C,q1];simp
 refine (Y (fun _=>False) w _ (fun b I=>I.elim) ⟨by simp at t⊢;omega,fun i v y D E=>?_⟩).mono ?_
 ·by_cases hi:i<l'.length
  ·rw[zt hi]at D;rw[Dz (by rw[←t];exact hi)]at E;obtain⟨b,I,q⟩:=T4 B i v D;have T:(c.args.toList.map a.eval)[i]?=some y:=by rw[←aix,akW]at E;exact E
   have F:=q2 i b y I T;unfold JO at q;split at q
   ·rename_i id;split at q
    ·rename_i ar H S;injection q with q;subst q
     cases F with
     | ref _ _ A n c h=>exact(G.hs.uj (kb S) H A n c h bH).mono (la _) (fun _ _ h=>h.elim) (fun _ _ _=>rfl) (fun _ _ h=>h)
    ·cases q
   ·split at q
    ·rename_i hp;injection q with q;subst q
     exact xT ((F.pure hp bH).mono (la _) (fun _ _ h=>h.elim) (fun _ _ _=>rfl) (fun _ _ h=>h))
    ·cases q
  ·rw[z3 (by omega)]at D;rw[akU (by rw[←t];omega)]at E;rw[t]at D;exact(J _ v y D (by simpa using E)).mono (la _) (fun _ _ h=>h.elim) (fun _ _ _=>rfl) (fun _ _ h=>h)
 ·rintro e w' ⟨x,v,s1,ι1,rfl,rfl,N,F⟩
  exact X _ _ (k _ _ _ ((G.mL N.below.plain).put (fX M.1) (TE M.2 F)))
end
abbrev iI(x:Int):AV:=.int .i64 x
abbrev gD{α:Type}[Inhabited α](L:List α)(i:Int):α:=List.getD L i.toNat default
def wZ(b:Nat→Bool):Nat→Nat→Bool
 | _,0=>true
 | lo,k+1=>b lo&&wZ b (lo+1) k
theorem My{b}:∀{lo k},wZ b lo k=true→eB lo k fun j=>b j=true
 | _,0,_=>trivial
 | lo,k+1,h=>by
  unfold wZ at h;rw[iO]at h;exact⟨h.1,My h.2⟩
theorem aC{P}{n:Nat}{c}{a}{K}{b}{o} lo k(f:o.guard.isSome=true:=by kernel_rfl)(h:wZ (fun j=>DA a (nth b j) o) lo k=true:=by kernel_rfl)
  (e:wZ (fun j=>(match o.dst with|some d=>(match look d (nth b j).t with|none=>true|some (.tup [])=>Nat.ble (d+1) n|_=>false)|none=>true)) 0 (K+1)=true:=by kernel_rfl):fv P n c a K b o (.off lo k) :=by grind[aa8,My]
def vz(n:Nat):es:=List.replicate n (.v 0 1)
theorem cT{P}{n}{f}{c}{K}{a}{o}(lo d:Nat){e b}(g:e=b)(i:cC c (nth a lo) o=true:=by kernel_rfl)(h:cc P n (nth a lo) o=some ((nth a lo).put (some d) (.bool e)):=by kernel_rfl)(j:(nth a lo).put (some d) (.bool b)=nth a lo:=by kernel_rfl):
  fv P n f c K a o (.v lo 1) :=by grind[ii,dR,ab5,iJ]
def nu:Nat→c6→il
 | _,[]=>[]
 | k,x::l=>(k,x)::nu (k+1) l
abbrev lm{α β:Type}(f:α→β)(l:List α):List β:=List.map f l
theorem bG{P}{f}{b}{a}{Q}{n} c(g:P.funcs[f]?=some b)(j:b.ntmps=n)(h:∀M d,VE ⟨P,n,M,d⟩ (bodyPost P b (bI M d Q)) [.c c] .normal ⟨idxs 0 a,[],[],[]⟩)
  (e:b.body=some c:=by kernel_rfl) (i:decide (a.length≤n)=true:=by kernel_rfl):aY P f a Q :=by grind[acm]
theorem bg{a}{Q}{b}{e}{s} s'(h:VE a Q b e s')(c:s=s':=by kernel_rfl):VE a Q b e s:=c ▸ h
theorem cN{P}{n}{s}{o}{α:Type}[Inhabited α] id sz enc{L:List α}{i}{m}(a:aO i m=true)(b:L.length=m:=by simp only[akT])(h:HN P n s o=some (id,sz,i,L.map enc):=by kernel_rfl):cc P n s o=some (s.put o.dst (.eptr id sz i.toNat 0)) :=by grind[cp]
theorem bh{P}{n}{c}{a}{K}{b}{f}{p}{i}{ts}{s'}(h:cc P n (nth b 0) (aS f p i)=some s')(d:fi P n c a K b (aU f p (i+1)) ts)(e:s'=nth b 0:=by kernel_rfl)(g:cC a (nth b 0) (aS f p i)=true:=by kernel_rfl)
  (j:aU f p i=aS f p i::aU f p (i+1):=by kernel_rfl):fi P n c a K b (aU f p i) (.v 0 1::ts):=aj (BJ h e g) d j
def Q1:Nat→Nat→ed→ed
 | 0,_,l=>l
 | k+1,x,l=>match Nat.ble x 1 with
  | true=>l
  | false=>Q1 k (x / 2) (x % 2::l)
def pn(x:Nat):ed:=Q1 90 x []
def wq(n q:Nat):Nat:=n*2 ^ q.log2+(q-2 ^ q.log2)
section
variable{e:Cx}{Q:Exit→Act→World→Prop}{g:dt}{s:AS}{f:Func}{n:Nat}
abbrev cP(f:Func)(n:Nat):aq:=.c (cat f (pn n))
theorem ax a b k(c:VE e Q (cP f (wq n a)::cP f (wq n b)::g) .normal (gH e.P e.n k (cP f n::g) .normal s))(h:gx e.P e.n k (cP f n::g) .normal s=some (cP f (wq n a)::cP f (wq n b)::g,.normal):=by kernel_rfl):VE e Q (cP f n::g) .normal s:=bX k c h
theorem br a k(b:VE e Q (cP f (wq n a)::g) .normal (gH e.P e.n k (cP f n::g) .normal s))(h:gx e.P e.n k (cP f n::g) .normal s=some (cP f (wq n a)::g,.normal):=by kernel_rfl):VE e Q (cP f n::g) .normal s:=bX k b h
theorem dA a b c d k(i:VE e Q (cP f (wq n a)::cP f (wq n b) :: .b c::cP f (wq n d)::g) .normal (gH e.P e.n k (cP f n::g) .normal s))(h:gx e.P e.n k (cP f n::g) .normal s=some (cP f (wq n a)::cP f (wq n b) :: .b c::cP f (wq n d)::g,.normal):=by kernel_rfl):VE e Q (cP f n::g) .normal s:=bX k i h
theorem cb a b c k(d:VE e Q (cP f (wq n a)::cP f (wq n b)::cP f (wq n c)::g) .normal (gH e.P e.n k (cP f n::g) .normal s))(h:gx e.P e.n k (cP f n::g) .normal s=some (cP f (wq n a)::cP f (wq n b)::cP f (wq n c)::g,.normal):=by kernel_rfl):VE e Q (cP f n::g) .normal s:=bX k d h
theorem gW a b c k(d:VE e Q (cP f (wq n a) :: .b b::cP f (wq n c)::g) .normal (gH e.P e.n k (cP f n::g) .normal s))(h:gx e.P e.n k (cP f n::g) .normal s=some (cP f (wq n a) :: .b b::cP f (wq n c)::g,.normal):=by kernel_rfl):VE e Q (cP f n::g) .normal s:=bX k d h
theorem gT a b k(c:VE e Q (cP f (wq n a) :: .b b::g) .normal (gH e.P e.n k (cP f n::g) .normal s))(h:gx e.P e.n k (cP f n::g) .normal s=some (cP f (wq n a) :: .b b::g,.normal):=by kernel_rfl):VE e Q (cP f n::g) .normal s:=bX k c h
theorem Qj{d i j} a b c k(l:VE e Q (cP f (wq n a)::cP f (wq n b)::cP f (wq n c)::g) .normal (gH e.P e.n k (d::i::j::cP f n::g) .normal s))(h:gx e.P e.n k (d::i::j::cP f n::g) .normal s=some (cP f (wq n a)::cP f (wq n b)::cP f (wq n c)::g,.normal):=by kernel_rfl):VE e Q (d::i::j::cP f n::g) .normal s:=bX k l h
theorem gg{c d i j} a b k(l:VE e Q (cP f (wq n a)::cP f (wq n b)::g) .normal (gH e.P e.n k (c::d::i::j::cP f n::g) .normal s))(h:gx e.P e.n k (c::d::i::j::cP f n::g) .normal s=some (cP f (wq n a)::cP f (wq n b)::g,.normal):=by kernel_rfl):VE e Q (c::d::i::j::cP f n::g) .normal s:=bX k l h
theorem cL{i} a b c d k(j:VE e Q (cP f (wq n a)::cP f (wq n b) :: .b c::cP f (wq n d)::g) .normal (gH e.P e.n k (i::cP f n::g) .normal s))(h:gx e.P e.n k (i::cP f n::g) .normal s=some (cP f (wq n a)::cP f (wq n b) :: .b c::cP f (wq n d)::g,.normal):=by kernel_rfl):VE e Q (i::cP f n::g) .normal s:=bX k j h
theorem fN{c} a b k(d:VE e Q (cP f (wq n a)::cP f (wq n b)::g) .normal (gH e.P e.n k (c::cP f n::g) .normal s))(h:gx e.P e.n k (c::cP f n::g) .normal s=some (cP f (wq n a)::cP f (wq n b)::g,.normal):=by kernel_rfl):VE e Q (c::cP f n::g) .normal s:=bX k d h
theorem FS{d} a b c k(i:VE e Q (cP f (wq n a) :: .b b::cP f (wq n c)::g) .normal (gH e.P e.n k (d::cP f n::g) .normal s))(h:gx e.P e.n k (d::cP f n::g) .normal s=some (cP f (wq n a) :: .b b::cP f (wq n c)::g,.normal):=by kernel_rfl):VE e Q (d::cP f n::g) .normal s:=bX k i h
theorem nR{d} a b c k(i:VE e Q (cP f (wq n a)::cP f (wq n b)::cP f (wq n c)::g) .normal (gH e.P e.n k (d::cP f n::g) .normal s))(h:gx e.P e.n k (d::cP f n::g) .normal s=some (cP f (wq n a)::cP f (wq n b)::cP f (wq n c)::g,.normal):=by kernel_rfl):VE e Q (d::cP f n::g) .normal s:=bX k i h
theorem sv{d i j l} a b c k(m:VE e Q (cP f (wq n a)::cP f (wq n b)::cP f (wq n c)::g) .normal (gH e.P e.n k (d::i::j::l::cP f n::g) .normal s))(h:gx e.P e.n k (d::i::j::l::cP f n::g) .normal s=some (cP f (wq n a)::cP f (wq n b)::cP f (wq n c)::g,.normal):=by kernel_rfl):VE e Q (d::i::j::l::cP f n::g) .normal s:=bX k m h
end
end Go.Proofs.YtocgkfoifehcbaaGreat

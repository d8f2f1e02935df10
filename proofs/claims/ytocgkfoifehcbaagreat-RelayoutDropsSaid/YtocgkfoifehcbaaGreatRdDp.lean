/- Memory that a callee made and that only this call knows, block by block: bases that follow one another; calls that give such memory, calls that turn it. No program in sight. -/
import Derived.Test.YtocgkfoifehcbaaGreatRdVg
import Derived.Test.YtocgkfoifehcbaaGreatRdVdt
namespace Go.Proofs.YtocgkfoifehcbaaGreat
set_option linter.all false
open Go.RowKit
structure fC(E:Nat→Prop)(b b':aB):Prop where
 os:b'.w.os=b.w.os
 tape:b'.w.tape=b.w.tape
 output:b'.w.output=b.w.output
 size:b.w.heap.size≤b'.w.heap.size
 block:∀k,k<b.w.heap.size→¬ b.G k→¬ E k→b'.w.heap[k]?=b.w.heap[k]?
 O:∀g,b'.O g→b.O g
 pv:b'.pv=b.pv
theorem fC.refl E b:fC E b b:=⟨rfl,rfl,rfl,la _,fun _ _ _ _=>rfl,fun _ h=>h,rfl⟩
theorem fC.trans{E:Nat→Prop}{b a d:aB}(h:fC E b a)(k:fC E a d):fC E b d :=
 ⟨k.os.trans h.os,k.tape.trans h.tape,k.output.trans h.output,RX h.size k.size,fun i hi c e=>by
  have l:¬ a.G i:=fun j=>by
   rcases h.O i (.inr j)with f|f
   ·grind
   grind
  exact(k.block i (wl hi h.size) l e).trans (h.block i hi c e),fun g c=>h.O g (k.O g c),k.pv.trans h.pv⟩
theorem fC.mono{E E'}{b a}(h:fC E b a)(c:∀k,E k→E' k):fC E' b a :=
 ⟨h.os,h.tape,h.output,h.size,fun i hi d e=>h.block i hi d (fun h=>e (c i h)),h.O,h.pv⟩
def zS(b:aB)(ι:Env)(w:World):aB:=⟨w,fun g=>∃id,bu (ι id)=some g,b.pv⟩
theorem aV.step{d:Cx}{s:AS}{a:Act}{w w':World}{ι:Env}(h:aV d s a w ι){E E':Nat→Prop}(O:w'.os=w.os)(P:w'.tape=w.tape)(Q:w'.output=w.output)(m:w.heap.size≤w'.heap.size)
  (I:∀k,E k→d.M k) (H:∀k,k<w.heap.size→¬ E k→w'.heap[k]?=w.heap[k]?) (n:∀k,E' k→w.heap.size≤k∧k<w'.heap.size) :
  aV ⟨d.P,d.n,fun k=>d.M k∨E' k,zS d.w0 ι w'⟩ s a w' ι∧fC E d.w0 (zS d.w0 ι w'):=by
 have q:∀{id g},bu (ι id)=some g→w'.heap[g]?=w.heap[g]?:=fun {id g} c=>H g (h.hs.own id g c).2 (fun C=>h.hs.sep (I g C) c);have B:∀b,b<w.heap.size→NN (fun k=>d.M k∨E' k) ι b→NN d.M ι b:=fun b f l=>by
  rcases l with (l|l)|l
  ·exact .inl l
  ·have:=(n b l).1;omega
  ·exact .inr l
 have t:∀b,b<w.heap.size→¬ NN d.M ι b→w'.heap[b]?=w.heap[b]?:=fun b f l=>H b f (fun C=>l (.inl (I b C)));refine⟨⟨⟨⟨rfl,rfl,rfl,la _,fun _ _ _=>rfl⟩,fun b f=>?_,h.hs.use,fun id g c=>⟨.inr ⟨id,c⟩,wl (h.hs.own id g c).2 m⟩,h.hs.inj,h.hs.ko,h.hs.kr,fun i cs hi F=>?_,fun i ar hi F=>?_,h.hs.pin⟩,h.dfr,h.n,fun k v p=>?_⟩,
  ⟨O.trans h.hs.below.os,P.trans h.hs.below.tape,Q.trans h.hs.below.output,RX h.hs.below.size m,fun k t R D=>(H k (wl t h.hs.below.size) D).trans (h.hs.below.block k t R),fun g c=>?_,rfl⟩⟩
 ·rcases f with f|f
  ·exact⟨wl (h.hs.old b f).1 (RX h.hs.below.size m),fun⟨id,o⟩=>h.hs.sep f o⟩
  ·exact⟨(n b f).2,fun⟨id,o⟩=>by have:=(n b f).1;have:=(h.hs.own id b o).2;omega⟩
 ·obtain⟨g,T,vs,u,z,A⟩:=h.hs.objs i cs hi F;exact⟨g,T,vs,u,(q (id:=i) (by rw[u];rfl)).trans z,A.mono m B t (fun _ _ h=>h)⟩
 ·obtain⟨v',xs,u,z,A,L,M⟩:=h.hs.arrs i ar hi F;refine⟨v',xs,u,fK z (fun g c=>q (id:=i) (by rw[u];exact c)),A,L,fun j e S J K p=>?_⟩;obtain⟨y,W,G⟩:=M j e S J K p;exact⟨y,W,G.mono m B t (fun _ h=>h) (fun r N=>q (id:=nm i (j*ar.sz+J)) (by rw[N];rfl)) (fun h=>h)⟩
 ·obtain⟨x,V,U⟩:=h.tmp k v p;exact⟨x,V,U.mono m B t (fun _ _ h=>h)⟩
 ·rcases c with c|⟨id,c⟩
  ·exact .inl (RX (RX h.hs.below.size m) c)
  ·exact(h.hs.own id g c).1
theorem HS.acS{M l E:Nat→Prop}{b m:aB}{w:World}{ι:Env}{s:AS}(h:HS l m w ι s)(a:fC E b m)(K:∀k,E k→b.w.heap.size≤k)(z:∀k,M k→l k∧k<b.w.heap.size∧¬ b.G k):HS M b w ι s:=by
 have A:∀b,b<w.heap.size→NN M ι b→NN l ι b:=fun b _ F=>F.elim (fun h=>.inl (z b h).1) .inr;refine⟨⟨h.below.os.trans a.os,h.below.tape.trans a.tape,h.below.output.trans a.output,RX a.size h.below.size,fun k c x=>?_⟩,fun k c=>(z k c).2,h.use,fun id g d=>⟨a.O g (h.own id g d).1,(h.own id g d).2⟩,h.inj,h.ko,h.kr,fun i cs hi f=>?_,fun i ar hi f=>?_,fun i v f=>h.pin i v (by rw[a.pv];exact f)⟩
 ·have H:¬ m.G k:=fun r=>by
   rcases a.O k (.inr r)with q|q
   ·exact absurd c (akX.2 q)
   ·exact x q
  exact(h.below.block k (wl c a.size) H).trans (a.block k c x (fun L=>absurd c (by grind)))
 ·obtain⟨g,T,vs,n,o,p⟩:=h.objs i cs hi f;exact⟨g,T,vs,n,o,p.mono (by omega) A (fun _ _ _=>rfl) (fun _ _ h=>h)⟩
 ·obtain⟨v',xs,n,o,p,C,D⟩:=h.arrs i ar hi f;refine⟨v',xs,n,o,p,C,fun j e G J B t=>?_⟩;obtain⟨y,I,u⟩:=D j e G J B t;exact⟨y,I,u.mono (by omega) A (fun _ _ _=>rfl) (fun _ h=>h) (fun _ _=>rfl) (fun h=>h)⟩
def gP(v:AV)(x:Value):Prop:=∀N w ι,Rel N w ι v x
def xZ(P:Program)(f:FuncId)(a:c6)(R:World→World→AV→Prop):Prop :=
 ∀M w xs,(∀b,M b→b<w.heap.size)→va M w a xs →
  Calls P f xs w fun e w'=>∃x v,e=.returned x∧Below w.heap.size w w'∧R w w' v∧gP v x
def rJ(P:Program)(f:FuncId)(a:c6)(E:Nat→Prop)(Φ:World→Prop)(V:AV)(R:World→Prop):Prop :=
 ∀(M:Nat→Prop) w xs,(∀b,M b→b<w.heap.size∧¬ E b)→(∀b,E b→b<w.heap.size)→Φ w→va (fun b=>M b∨E b) w a xs →
  Calls P f xs w fun e w'=>∃x,e=.returned x∧w'.os=w.os∧w'.tape=w.tape∧w'.output=w.output∧w.heap.size≤w'.heap.size∧(∀k,k<w.heap.size→¬ E k→w'.heap[k]?=w.heap[k]?)∧R w'∧gP V x
theorem Sx{c}{s}{a}{w}{ι}(f:aV c s a w ι){o}{g}{b}(d:d9 s o=some (g,b))(e:cI c.P g=true):
  ∃xs,(execOp a.eval o).run c.P w=.ok (.enter g xs) w∧va (NN c.M ι) w b xs:=by
 unfold d9 at d;split at d
 ·grind[kF,y9]
 grind
section
variable{d:Cx}{Q:Exit→Act→World→Prop}{l:dt}{s:AS}{j:Array Oper}{f:Func}{p:ed}{i:Nat}
theorem PC{g:FuncId}{n:c6}{R:World→World→AV→Prop}(D:xZ d.P g n R)
  (k:∀v w r,R w r.w v→(∀k,d.M k→k<d.w0.w.heap.size∧¬ d.w0.G k)→d.w0.w.heap.size≤w.heap.size→(∀k,r.G k→k<w.heap.size)→fC (fun _=>False) d.w0 r→∃E:Nat→Prop,(∀k,E k→w.heap.size≤k∧k<r.w.heap.size)∧OT ⟨d.P,d.n,fun c=>d.M c∨E c,r⟩ Q l j (aU f p (i+1)) (s.put (aS f p i).dst v))
  (H:aU f p i=aS f p i::aU f p (i+1):=by kernel_rfl) (G:cC j s (aS f p i)=true:=by kernel_rfl) (u:cI d.P g=true:=by kernel_rfl)
  (z:d9 s { aS f p i with guard:=none }=some (g,n):=by kernel_rfl) (F:cK d.n (aS f p i).dst=true:=by kernel_rfl):OT d Q l j (aU f p i) s:=by
 rw[H];refine eU _ G fun a w ι q=>?_;refine Ts rfl fun K B=>?_;unfold Oper.wp;obtain⟨xs,y,J⟩:=Sx q z u;rw[y,ahR];refine (D (NN d.M ι) w xs (fun b m=>ml q.hs m) J).mono ?_
 rintro e w' ⟨x,v,rfl,m,C,I⟩
 obtain⟨E,A,o⟩:=k v w (zS d.w0 ι w') C q.hs.old q.hs.below.size (fun k ⟨id,o⟩=>(q.hs.own id k o).2) (q.step (E':=fun _=>False) m.os m.tape m.output m.size (fun _ h=>h.elim) (fun k o _=>m.block k o) (fun _ h=>h.elim)).2;have t:=(q.step (E:=fun _=>False) (E':=E) m.os m.tape m.output m.size (fun _ h=>h.elim) (fun k o _=>m.block k o) A).1;exact B _ _ (o _ _ _ (t.put (fX F) (I _ _ _)))
theorem Uj{g:FuncId}{f:c6}{E:Nat→Prop}{Φ R:World→Prop}{V:AV}(C:rJ d.P g f E Φ V R){o:Oper}{a:Act}{w:World}{ι:Env}(c:aV d s a w ι)(A:d9 s o=some (g,f))(q:cI d.P g=true)(D:cK d.n o.dst=true)
  (m:∀k,E k→d.M k) (K:∀w,d.w0.w.heap.size≤w.heap.size→(∀k,E k→w.heap[k]?=d.w0.w.heap[k]?)→Φ w) {Kn:Act→World→Prop} {z:Exit→Act→World→Prop}
  (k:∀n x w',fC E d.w0 n→R n.w→n=zS d.w0 ι w'→aV ⟨d.P,d.n,d.M,n⟩ (s.put o.dst V) (a.put o.dst x) w' ι→Kn (a.put o.dst x) w'):o.wp d.P a w Kn z:=by
 unfold Oper.wp;obtain⟨xs,t,u⟩:=Sx c A q;rw[t,ahR];have r:∀k,E k→k<w.heap.size:=fun k p=>wl (c.hs.old k (m k p)).1 c.hs.below.size;refine (C (fun b=>NN d.M ι b∧¬ E b) w xs (fun b j=>⟨ml c.hs j.1,j.2⟩) r (K w c.hs.below.size (fun k p=>c.hs.below.block k (c.hs.old k (m k p)).1 (c.hs.old k (m k p)).2)) ⟨u.1,fun i v y I J=>(u.2 i v y I J).mono (la _) (fun b _ j=>?_) (fun _ _ _=>rfl) (fun _ _ h=>h)⟩).mono ?_
 ·rcases j with j|j
  ·exact j.1
  ·exact .inl (m b j)
 rintro e w' ⟨x,rfl,L,M,N,O,P,B,H⟩
 obtain⟨l,G⟩:=c.step (E:=E) (E':=fun _=>False) L M N O m P (fun _ h=>h.elim);refine k (zS d.w0 ι w') x w' G B rfl ?_;have F:(fun k=>d.M k∨False)=d.M:=by funext k;simp
 rw[F]at l;exact l.put (fX D) (H _ _ _)
theorem Wu{g}{b}{E}{Φ R}{V}(t:rJ d.P g b E Φ V R)(q:∀k,E k→d.M k)(z:∀w,d.w0.w.heap.size≤w.heap.size→(∀k,E k→w.heap[k]?=d.w0.w.heap[k]?)→Φ w)
  (k:∀c,fC E d.w0 c→R c.w→(∀k,d.M k→k<d.w0.w.heap.size∧¬ d.w0.G k)→OT ⟨d.P,d.n,d.M,c⟩ Q l j (aU f p (i+1)) (s.put (aS f p i).dst V))
  (y:aU f p i=aS f p i::aU f p (i+1):=by kernel_rfl) (v:cC j s (aS f p i)=true:=by kernel_rfl) (h:cI d.P g=true:=by kernel_rfl)
  (e:d9 s { aS f p i with guard:=none }=some (g,b):=by kernel_rfl) (u:cK d.n (aS f p i).dst=true:=by kernel_rfl):OT d Q l j (aU f p i) s:=by
 rw[y];refine eU _ v fun a w ι m=>?_;refine Ts rfl fun K r=>?_;exact Uj t m e h u q z (fun c x w' e n _ o=>r _ _ (k c e n m.hs.old _ _ _ o))
end
theorem wI{c}{g}{s}{f}{l}(h:gZ c.P s g.results.toList=some l)(k:∀w ι x,HS c.M c.w0 w ι s→Rel (NN c.M ι) w ι (re l) x→f (.returned x) w):VE c (bodyPost c.P g f) [] .ret s:=fun a w ι b=>by
 obtain⟨vs,j,e,d⟩:=BS b h;refine⟨b.dfr,_,QI j,k w ι _ b.hs ?_⟩
 match l,vs,e,d with
 | [],[],_,d=>exact .tup _ _ _ rfl (fun i x v m _=>by grind)
 | [v],[y],_,d=>exact d 0 v y rfl rfl
 | v::u::r,y::z::q,e,d=>exact .tup _ _ _ e d
theorem agq{P:Program}{f:FuncId}{m:Func}{c:Code}{d:c6}{R:World→World→AV→Prop}(s:P.funcs[f]?=some m)(j:m.body=some c)(n:Nat)(B:m.ntmps=n)(A:d.length≤n)
  (h:∀M w,VE ⟨P,n,M,nj w⟩ (bodyPost P m (fun e w'=>∃x v,e=.returned x∧Below w.heap.size w w'∧R w w' v∧gP v x)) [.c c] .normal ⟨idxs 0 d,[],[],[]⟩):xZ P f d R:=by
 intro M w xs r q;refine al1 s j ?_;refine am3 (h M w { tmps:=xs++Array.replicate (m.ntmps-xs.size) undef,defers:=[] } w bH ?_) (fun e a w' t=>?_)
 ·refine⟨⟨⟨rfl,rfl,rfl,la _,fun _ _ _=>rfl⟩,fun b j=>⟨r b j,fun h=>h⟩,fun i y z=>(by cases z),fun i g o=>(by cases o),fun i C g o=>(by cases o),fun i cs hi=>(by cases hi),fun i a hi=>(by cases hi),fun i cs hi=>(by cases hi),fun i a hi=>(by cases hi),fun i v u=>(by cases u)⟩,rfl,?_,fun k v p=>?_⟩
  ·have:=q.1;simp;omega
  ·rw[qf,lp (u4 _),ale]at p;have l:k<xs.size:=by rw[←q.1];exact(jt.1 p).1
   refine⟨xs[k],?_,(q.2 k v _ p (ll l)).mono (la _) (fun b _ j=>?_) (fun _ _ _=>rfl) (fun _ _ h=>h)⟩
   ·simp only[];rw[Dz l,ll l]
   ·rcases j with j|⟨id,j⟩
    ·exact j
    ·cases j
 ·cases e<;>exact t
theorem YP{P:Program}{f:FuncId}{z:Func}{c:Code}{d args':c6}{E:Nat→Prop}{Φ R:World→Prop}{V:AV}{id0:Nat}{v0:Value}{ar:cj}(Z:P.funcs[f]?=some z)(l:z.body=some c)(n:Nat)(hn:z.ntmps=n)(hl:d.length≤n)(O:args'.length=d.length)
  (F:∀g,bu (some v0)=some g→E g)
  (m:∀w,Φ w→∃G,w.ownsRow 0 ar.e ar.sz v0 ar.l.length G∧(∀e∈ar.l,e.length=ar.sz)∧(∀x∈G,x.oneCell'=true)∧∀(j:Nat) (e:c6),ar.l[j]?=some e→∀(i:Nat) (c:AV),e[i]?=some c→∃x,G[j*ar.sz+i]?=some x∧gP c x)
  (A:∀(N:Nat→Prop) (w:World) (i:Nat) (a b:AV) (x:Value),d[i]?=some a→args'[i]?=some b→Rel N w bH a x→Rel N w (ext bH id0 v0) b x)
  (h:∀M w,(∀g,E g→bu (some v0)≠some g→M g)→Φ w→VE ⟨P,n,M,nN w id0 v0⟩ (bodyPost P z (fun e w'=>∃x,e=.returned x∧w'.os=w.os∧w'.tape=w.tape∧w'.output=w.output∧w.heap.size≤w'.heap.size∧(∀k,k<w.heap.size→¬ E k→w'.heap[k]?=w.heap[k]?)∧R w'∧gP V x)) [.c c] .normal ⟨idxs 0 args',[],[(id0,ar)],[id0,da id0]⟩):rJ P f d E Φ V R:=by
 intro M w xs S X T u;obtain⟨G,m,C,D,J⟩:=m w T;refine al1 Z l ?_;have U:∀i y,ext bH id0 v0 i=some y→i=id0∧y=v0:=fun i y t=>by
  by_cases e:i=id0
  ·subst e;rw[cJ]at t;injection t with t;exact⟨rfl,t.symm⟩
  ·rw[bS _ _ e]at t;cases t
 have o:∀i g,bu (ext bH id0 v0 i)=some g→i=id0∧bu (some v0)=some g:=fun i g p=>by
  cases B:ext bH id0 v0 i with
  | none=>rw[B]at p;cases p
  | some y=>obtain⟨H,I⟩:=U i y B;rw[B,I]at p;exact⟨H,p⟩
 have Q:args'.length=xs.size:=by rw[O];exact u.1
 refine am3 (h (fun b=>M b∨(E b∧bu (some v0)≠some b)) w (fun g H I=>.inr ⟨H,I⟩) T { tmps:=xs++Array.replicate (z.ntmps-xs.size) undef,defers:=[] } w (ext bH id0 v0) ?_) (fun e a w' hq=>?_)
 ·refine⟨⟨⟨rfl,rfl,rfl,la _,fun _ _ _=>rfl⟩,fun b l=>?_,fun i y t=>?_,fun i g p=>⟨.inr (o i g p).2,Fp m (o i g p).2⟩,fun i i' g p K=>(o i g p).1.trans (o i' g K).1.symm,fun i cs hi=>(by cases hi),fun i a hi=>?_,fun i cs hi=>(by cases hi),fun i a hi hp=>?_,fun i v hv=>?_⟩,rfl,?_,fun k v L=>?_⟩
  ·rcases l with l|l
   ·exact⟨(S b l).1,fun p=>(S b l).2 (F b p)⟩
   ·exact⟨X b l.1,l.2⟩
  ·rw[(U i y t).1];exact ft (by simp)
  ·simp only[look]at hi;split at hi
   ·rename_i e;subst e;exact ft (by simp)
   ·cases hi
  ·simp only[look]at hi;split at hi
   ·rename_i e;subst e;injection hi with hi;subst hi
    exact⟨v0,G,cJ _ _ _,m,C,D,fun j e B k c Y=>by obtain⟨x,u,hr⟩:=J j e B k c Y;exact⟨x,u,.inl (hr _ _ _)⟩⟩
   ·cases hi
  ·have q:(if i=id0 then some v0 else none)=some v:=hv;split at q
   ·rename_i e;subst e;injection q with q;subst q
    exact⟨cJ _ _ _,by simp⟩
   ·cases q
  ·have:=u.1;simp;omega
  ·rw[qf,lp (u4 _),ale]at L;have r:k<xs.size:=by rw[←Q];exact(jt.1 L).1
   have s:k<d.length:=by rw[u.1];exact r
   refine⟨xs[k],?_,?_⟩
   ·simp only[];rw[Dz r,ll r]
   ·have W:=A _ w k _ v _ (j3 s) L (u.2 k _ _ (j3 s) (ll r));refine W.mono (la _) (fun b _ l=>?_) (fun _ _ _=>rfl) (fun _ _ h=>h);rcases l with (l|l)|⟨id,l⟩
    ·exact .inl l
    ·exact .inr l.1
    ·exact .inr (F b (o id b l).2)
 ·cases e<;>exact hq
section
variable{d:Cx}{ops:Array Oper}{c:es}{σ g:Nat→AS}{l f:AS}
theorem dq.ag7{Q:Exit→Act→World→Prop}(U:Stat ops c 0)(W:mK d.P d.n l ops c 0 σ){z:Nat}(T:c.length=z)(F:z+1≤ops.size)(m:vO ops (z+1)=true)(O:∀(o:Oper),ops[z]?=some o→∀j∈cZ o,j<z)(R:∀a w ι,aV d (σ 0) a w ι→wpList d.P ops Q (ops.toList.drop (z+1)) a w):
  ∀(g:Nat) (listed:Array Bool) (a:Act) (w:World) (k:Nat) (ι:Env),jD listed=g→listed[z]?=some true→(∀i,z+1≤i→listed[i]?≠some true)→dq d ops c 0 σ listed a w k ι→wpAny d.P .any ops Q g listed a w:=by
 have p:∀(n:Nat) (o:Oper),n<z+1→ops[n]?=some o→∀j∈cZ o,j<n:=fun n o hn x=>by
  by_cases e:n=z
  ·subst e;exact O o x
  ·exact U.lex n _ _ x (j3 (by rw[T];omega))
 have B:∀(listed:Array Bool) (a:Act) (w:World) (k:Nat) (ι:Env),dq d ops c 0 σ listed a w k ι→(∀i,i<z+1→listed[i]?=some true)→aV d (σ 0) a w ι:=by
  intro listed a w k ι h f;have hk:k=0:=by have:=h.kK;omega
  subst hk;exact⟨h.hs,h.dfr,h.n,fun t v hv=>h.tmp t v hv (fun i o tg _ N _ _=>f i (by have:=(jt.1 N).1;omega))⟩
 intro g
 induction g with
 | zero =>
  intro listed a w k ι H A u h;have f:∀i,i<z+1→listed[i]?=some true:=fun i hi=>y5 H i (by rw[h.sz];omega);exact NU m p 0 listed a w (z+1) H (la _) F h.sz (fun i hi=>⟨fun y=>aiI fun C=>u i (by omega) y,f i⟩) (R a w ι (B listed a w k ι h f))
 | succ g ih =>
  intro listed a w k ι H A u h;by_cases f:∀i,i<z+1→listed[i]?=some true
  ·exact NU m p (g+1) listed a w (z+1) H (la _) F h.sz (fun i hi=>⟨fun y=>aiI fun C=>u i (by omega) y,f i⟩) (R a w ι (B listed a w k ι h f))
  ·refine⟨fun hr=>?_,fun i hi=>?_⟩
   ·exfalso;apply f;intro i
    induction i using Nat.strongRecOn with
    | _ i P =>
     intro hi;have x:=ll (xs:=ops) (show i<ops.size by omega);cases D:listed[i]? with
     | none=>rw[alb,h.sz]at D;omega
     | some b =>
      cases b with
      | true=>rfl
      | false =>
       exfalso;have I:i∈Region.ready .any ops listed:=by
        unfold Region.ready;simp only[akN,ag5,iO,acM];refine⟨by omega,by rw[v9,D];rfl,?_⟩;rw[x];simp only[aa3,aag,aht,Dk,acM];intro e Y;by_cases G:Region.binds .any e=true
        ·right;have M:e.on∈cZ ops[i]:=tV.2 ⟨e,Y,G,rfl⟩;have E:=p i _ hi x e.on M;rw[v9,P e.on E (by omega)];rfl
        ·left;simpa using G
       rw[hr]at I;cases I
   ·obtain⟨s,o,x,J⟩:=lF hi;have K:i<ops.size:=(q7.1 x).1;have r:i<listed.size:=by rw[h.sz];exact K
    have Z:listed[i]?=some false:=by
     rw[ll r]at s⊢;cases G:listed[i] with
     | true=>rw[G]at s;exact(s rfl).elim
     | false=>rfl
    have a0:=Aq Z;have L:i<z:=by
     refine aiI fun C=>f fun q S=>?_;have b0:i≠z:=fun e=>by subst e;exact s A
     obtain⟨_,X⟩:=zL m (by omega) x;exact zC h.cl i _ (fun j M=>J j M) q (X q (by omega))
    refine h.one U W (by rw[T];exact L) hi (fun V w' k' ι' I=>ih _ V w' k' ι' (by omega) ((dI r).2 (.inr A)) (fun q S y=>?_) I);rcases (dI r).1 y with e|y
    ·omega
    ·exact u q S y
theorem dq.ag2{M:Exit→Act→World→Prop}(U:Stat ops c 0)(W:mK d.P d.n l ops c 0 σ){z:Nat}{D:Oper}(R:c.length=z)(S:z+1≤ops.size)(t:vO ops (z+1)=true)(x:ops[z]?=some D)(K:∀j∈cZ D,j<z)(O:D.guard=none)
  (J:∀(listed:Array Bool) (a:Act) (w:World) (ι:Env),dq d ops c 0 σ listed a w 0 ι→listed[z]?≠some true→(∀j∈cZ D,listed[j]?=some true)→∀(Kn:Act→World→Prop),(∀n g f B w',mK n.P n.n f ops c 0 g→dq n ops c 0 g (listed.setIfInBounds z true) B w' 0 ι→(∀a w ι,aV n (g 0) a w ι→wpList n.P ops M (ops.toList.drop (z+1)) a w)→n.P=d.P→Kn B w')→D.wp d.P a w Kn M) :
  ∀(m:Nat) (listed:Array Bool) (a:Act) (w:World) (k:Nat) (ι:Env),jD listed=m→(∀i,z≤i→listed[i]?≠some true)→dq d ops c 0 σ listed a w k ι→wpAny d.P .any ops M m listed a w:=by
 intro m
 induction m with
 | zero =>
  intro listed a w k ι V r h;exact absurd (y5 V z (by rw[h.sz];omega)) (r z (la _))
 | succ m ih =>
  intro listed a w k ι V r h;refine⟨fun hr=>?_,fun i hi=>?_⟩
  ·exfalso;have key:∀i,i<z+1→listed[i]?=some true:=by
    intro i
    induction i using Nat.strongRecOn with
    | _ i T =>
     intro hi;have s:=ll (xs:=ops) (show i<ops.size by omega);cases H:listed[i]? with
     | none=>rw[alb,h.sz]at H;omega
     | some b =>
      cases b with
      | true=>rfl
      | false =>
       exfalso;have C:i∈Region.ready .any ops listed:=by
        unfold Region.ready;simp only[akN,ag5,iO,acM];refine⟨by omega,by rw[v9,H];rfl,?_⟩;rw[s];simp only[aa3,aag,aht,Dk,acM];intro e Z;by_cases L:Region.binds .any e=true
        ·right;have G:e.on∈cZ ops[i]:=tV.2 ⟨e,Z,L,rfl⟩;have I:e.on<i:=by
          by_cases A:i<z
          ·exact U.lex i _ _ s (j3 (by rw[R];exact A)) e.on G
          ·have:i=z:=by omega
           subst this;rw[x]at s;injection s with s
           rw[←s]at G;exact K _ G
         rw[v9,T e.on I (by omega)];rfl
        ·left;simpa using L
       rw[hr]at C;cases C
   exact r z (la _) (key z (by omega))
  ·obtain⟨u,o,s,E⟩:=lF hi;have P:i<ops.size:=(q7.1 s).1;have p:i<listed.size:=by rw[h.sz];exact P
   have hf:listed[i]?=some false:=by
    rw[ll p]at u⊢;cases L:listed[i] with
    | true=>rw[L]at u;exact(u rfl).elim
    | false=>rfl
   have b0:=Aq hf;by_cases A:i=z
   ·subst A;rw[x]at s;injection s with s;subst s
    have hk:k=0:=by have:=h.kK;omega
    subst hk;unfold wpOp;simp only[x];have hw:Region.wanted D (yielded ops a.tmps)=true:=by simp[Region.wanted,O]
    rw[lp hw];refine .inl (J listed a w ι h u E _ fun n g f B w' N C Q Y=>?_);have:=dq.ag7 U N R S t (fun o' v=>by rw[x]at v;injection v with v;subst v;exact K) Q m _ B w' 0 ι (by omega) ((dI p).2 (.inl rfl)) (fun q c0 y=>by
     rcases (dI p).1 y with e|y
     ·omega
     ·exact r q (by omega) y) C
    rw[Y]at this;exact this
   ·have F:i<z:=by
     refine aiI fun a0=>?_;obtain⟨_,X⟩:=zL t (by omega) s;exact r z (la _) (zC h.cl i _ (fun j G=>E j G) z (X z (by omega)))
    refine h.one U W (by rw[R];exact F) hi (fun B w' k' ι' C=>ih _ B w' k' ι' (by omega) (fun q Q y=>?_) C);rcases (dI p).1 y with e|y
    ·omega
    ·exact r q Q y
end
theorem PX{α:Type}:∀(m l l':List (Nat×α)) (k:Nat),(∃p∈m,p.1=k)→look k (gS m l)=look k (gS m l')
 | [],l,l',k,⟨p,a,_⟩=>by cases a
 | (j,x)::r,l,l',k,⟨p,a,e⟩=>by
  by_cases h:∃q∈r,q.1=k
  ·exact PX r _ _ k h
  ·rcases ol.1 a with rfl|a
   ·have key:∀(r l:List (Nat×α)),(¬ ∃q∈r,q.1=k)→look k (gS r l)=look k l:=by
     intro r
     induction r with
     | nil=>intro l _;rfl
     | cons q r n =>
      intro l b;obtain⟨c,d⟩:=q;show look k (gS r (bd c d l))=_;rw[n _ (fun⟨o,g,i⟩=>b ⟨o,oR _ g,i⟩),cn,kc (fun f=>b ⟨(c,d),tl,f.symm⟩)]
    grind[look,gS,bd,cn]
   grind
theorem abh{s:AS}{o:Oper}(t:il)(d:∀x∈o.op.operands.toList,(s.tt t).ev x=s.ev x):d9 (s.tt t) o=d9 s o:=by
 unfold d9;cases b:o.op with
 | call c =>
  simp only;cases a:c.callee with
  | value e =>
   simp only;have f:=d e (by simp[b,Op.operands,Call.operands,a]);have g:dj (s.tt t) c.args.toList=dj s c.args.toList:=pF (fun x h=>d x (by simp[b,Op.operands,Call.operands,a];exact .inr (In.1 h)));rw[f,g]
  | _=>rfl
 | _=>rfl
theorem Jo{α}{k}:∀(r l:List (Nat×α)),(¬ ∃q∈r,q.1=k)→look k (gS r l)=look k l
 | [],l,_=>rfl
 | (b,c)::r,l,a=>by
  show look k (gS r (bd b c l))=_;rw[Jo r _ (fun⟨g,e,f⟩=>a ⟨g,oR _ e,f⟩),cn,kc (fun d=>a ⟨(b,c),tl,d.symm⟩)]
def D4(o:Oper):ed:=o.op.operands.toList.filterMap fun x=>match x with|.tmp t=>some t|_=>none
def SO(ops:Array Oper)(z d:Nat):Bool:=match ops[z]? with
 | some a=>(match a.dst with|some b=>Nat.beq b d|none=>false)&&((match a.guard with|none=>true|some _=>false)&&((List.range z).all fun j=>match ops[j]? with
  | some c=>(match c.dst with|some t=>(match Nat.beq t d with|true=>false|false=>true)&&(match (D4 a).contains t with|true=>(cZ a).contains j|false=>true)|none=>true)
  | none=>false))
 | none=>false
theorem acD{l:Cx}{Q:Exit→Act→World→Prop}{ks:dt}{f:Func}{p:ed}{A:AS}{c:es}(z d:Nat)(u:il){g:FuncId}{F:c6}{E:Nat→Prop}{Φ R:World→Prop}{V:AV}(t0:rJ l.P g F E Φ V R)
  (hE:∀k,E k→l.M k) (hΦ:∀w,l.w0.w.heap.size≤w.heap.size→(∀k,E k→w.heap[k]?=l.w0.w.heap[k]?)→Φ w)
  (Z:fi l.P l.n A (dF f p) 0 [gE A u [] []] (aU f p 0) c) (L:fi l.P l.n (A.put (some d) V) (dF f p) 0 [gE (A.put (some d) V) u [] []] (aU f p 0) c)
  (h:∀U,fC E l.w0 U→R U.w→(∀k,l.M k→k<l.w0.w.heap.size∧¬ l.w0.G k)→OT ⟨l.P,l.n,l.M,U⟩ Q ks (dF f p) (aU f p (z+1)) (gE (A.put (some d) V) u [] []))
  (x0:cK l.n (some d)=true:=by kernel_rfl) (v0:cI l.P g=true:=by kernel_rfl) (h1:d9 (gE A u [] []) (aS f p z)=some (g,F):=by kernel_rfl)
  (C:SO (dF f p) z d=true:=by kernel_rfl) (W:m7 f p=true:=by kernel_rfl) (hm:l.P.follows .mixedOrders=true:=by kernel_rfl) (hs:Bc (dF f p) c 0 z=true:=by kernel_rfl) (s:mX (aU f p 0) c u=true:=by kernel_rfl)
  (hz:(Nat.ble (z+1) (dF f p).size&&(vO (dF f p) (z+1)&&(cZ (aS f p z)).all fun j=>Nat.ble (j+1) z))=true:=by kernel_rfl):VE l Q (.c (cat f p)::ks) .normal A:=by
 have e0:aU f p 0=(dF f p).toList:=by simp[aU]
 have ez:aU f p (z+1)=(dF f p).toList.drop (z+1):=rfl;have m0:∀y,(dF f p)[z]?=some y→aS f p z=y:=fun y H=>by
  unfold aS;obtain⟨S0,he⟩:=q7.1 H;rw[l3 (by rw[If];exact S0)];simp[he]
 rw[ez]at h;cases M:cat f p with
 | region id ops b =>
  cases b with
  | false=>unfold m7 at W;rw[M]at W;cases W
  | true =>
   have ho:dF f p=ops:=by unfold dF;rw[M];rfl
   rw[e0]at Z L s;rw[ho]at Z L s hs h hz C m0;simp only[iO]at hz;obtain⟨T,c1,p0⟩:=hz;have T:=kb T;unfold SO at C;split at C
   case h_2=>cases C
   rename_i y H;rw[m0 y H]at h1 p0;simp only[iO,n3,ag5]at C;obtain⟨B,J,a0⟩:=C;have B:y.dst=some d:=by
    split at B
    ·rename_i d' w0;rw[w0,nx B]
    ·cases B
   have J:y.guard=none:=by
    cases X:y.guard with
    | none=>rfl
    | some _=>rw[X]at J;cases J
   have d1:∀j∈cZ y,j<z:=fun j D=>kb (n3.1 p0 j D);have g0:∀j K t,j<z→ops[j]?=some K→K.dst=some t→t≠d∧(t∈D4 y→j∈cZ y):=fun j K t D m ht=>by
    have:=a0 j D;rw[m]at this;simp only[ht,iO]at this;refine⟨fun e=>?_,fun hm=>?_⟩
    ·rw[e]at this;rw[show Nat.beq d d=true from amc d]at this;cases this.1
    ·have Y:=this.2;rw[show(D4 y).contains t=true by simpa using hm]at Y;simpa using Y
   intro a w ι o0;obtain⟨st,f0,_⟩:=D0 hs rfl;have dy:=Dh (P:=l.P) (n:=l.n) c 0 u [] [] [gE A u [] []] s rfl rfl rfl Z;have A0:∀q∈u,∃(i:Nat) (o:Oper),i<z∧ops[i]?=some o∧o.dst=some q.1:=fun q X=>by
    obtain⟨i,o,tg,g1,g2,_,g4⟩:=JU s q X;exact⟨i,o,by have:=(jt.1 g2).1;omega,by simpa using g1,g4⟩
   refine amU hm (dq.ag2 st dy f0 T c1 H d1 J (fun listed a w ι r f1 b0 Kn r0=>?_) ops.size _ a _ 0 ι (by simp[jD]) (fun q _ hh=>?_) (dq.start st dy o0))
   case refine_2=>rw[ak1]at hh;split at hh<;>cases hh
   have G:z<listed.size:=by rw[r.sz];omega
   have a1:∀t,t∈D4 y→eR ops c listed t=true:=fun t ht=>kX.2 fun j K tj m b1 _ N=>by
    have D:j<z:=by have:=(jt.1 b1).1;omega
    exact b0 j ((g0 j K t D m N).2 ht)
   have q0:d9 (((nth [gE A u [] []]) 0).tt (cy (eR ops c listed) ((nth [gE A u [] []]) 0).t)) y=some (g,F):=by
    rw[abh _ (fun x hx=>?_)]
    ·exact h1
    ·cases x with
     | tmp t =>
      show look t (cy _ _)=look t _;rw[eX,lp (a1 t (amb.2 ⟨.tmp t,hx,rfl⟩))]
     | _=>rfl
   refine Uj t0 r.LK q0 v0 (by rw[B];exact x0) hE hΦ (fun U x w' hG hR _ I=>?_);refine r0 ⟨l.P,l.n,l.M,U⟩ (nth [gE (A.put (some d) V) u [] []]) _ _ _ (Dh (P:=l.P) (n:=l.n) c 0 u [] [] [gE (A.put (some d) V) u [] []] s rfl rfl rfl L) ?_ (fun a w ι hs=>h U hG hR r.hs.old a w ι hs) rfl;rw[B]at I⊢;refine⟨by simp[r.sz],fun j K m D j' c0=>?_,la _,fun j m' d0=>?_,I.hs.of_eq rfl rfl rfl,fun j K e1 d' m D T0 N h0=>?_,I.dfr,I.n,fun t v hv l0=>?_⟩
   ·rw[dI G]at D⊢;rcases D with rfl|D
    ·rw[H]at m;injection m with m;subst m;exact .inr (b0 j' c0)
    ·exact .inr (r.cl j K m D j' c0)
   ·have y0:j<ops.size:=by have:=(jt.1 d0).1;omega
    have:=st.chain j _ m' (ll y0) d0;omega
   ·exact r.al j K e1 d' m D T0 N (fun hh=>h0 ((dI G).2 (.inr hh)))
   ·have i0:(∀(i:Nat) (o:Oper) (tg:Tag),ops[i]?=some o→c[i]?=some tg→tg.gm=true→o.dst=some t→listed[i]?=some true):=fun i o tg h1 Y Z h4=>by
     have hi:i<z:=by have:=(jt.1 Y).1;omega
     rcases (dI G).1 (l0 i o tg h1 Y Z h4)with e|e
     ·omega
     ·exact e
    have k0:=kX.2 i0;have S:look t (gS u (bd d V A.t))=some v:=hv;refine I.tmp t v ?_;show look t (bd d V (cy (eR ops c listed) (gS u A.t)))=some v;rw[cn,eX,lp k0];by_cases O:∃q∈u,q.1=t
    ·obtain⟨q,X,rfl⟩:=O;obtain⟨i,o,g1,g2,g3⟩:=A0 q X;rw[kc (g0 i o q.1 g1 g2 g3).1,← PX u _ _ q.1 ⟨q,X,rfl⟩];exact S
    ·rw[Jo _ _ O,cn]at S;rw[Jo _ _ O];exact S
 | _=>unfold m7 at W;rw[M]at W;cases W
end Go.Proofs.YtocgkfoifehcbaaGreat

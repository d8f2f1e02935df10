/- Memory that a callee made and that only this call knows, block by block: bases that follow one another; calls that give such memory, calls that turn it. No program in sight. -/
import Derived.Test.YtocgkfoifehcbaaGreatRkVg
import Derived.Test.YtocgkfoifehcbaaGreatRkVdt
namespace Go.Proofs.YtocgkfoifehcbaaGreat
set_option linter.all false
open Go.RowKit
structure fQ(E:Nat→Prop)(b b':aA):Prop where
 os:b'.w.os=b.w.os
 tape:b'.w.tape=b.w.tape
 output:b'.w.output=b.w.output
 size:b.w.heap.size≤b'.w.heap.size
 block:∀k,k<b.w.heap.size→¬ b.G k→¬ E k→b'.w.heap[k]?=b.w.heap[k]?
 O:∀g,b'.O g→b.O g
 pv:b'.pv=b.pv
theorem fQ.refl E b:fQ E b b:=⟨rfl,rfl,rfl,ll _,fun _ _ _ _=>rfl,fun _ h=>h,rfl⟩
theorem fQ.trans{E:Nat→Prop}{b a d:aA}(h:fQ E b a)(k:fQ E a d):fQ E b d :=
 ⟨k.os.trans h.os,k.tape.trans h.tape,k.output.trans h.output,RX h.size k.size,fun i f c e=>by
  have m:¬ a.G i:=fun l=>by
   rcases h.O i (.inr l)with j|j
   ·grind
   grind
  exact(k.block i (u7 f h.size) m e).trans (h.block i f c e),fun g c=>h.O g (k.O g c),k.pv.trans h.pv⟩
theorem fQ.mono{E E'}{b a}(h:fQ E b a)(c:∀k,E k→E' k):fQ E' b a :=
 ⟨h.os,h.tape,h.output,h.size,fun i e d f=>h.block i e d (fun h=>f (c i h)),h.O,h.pv⟩
def xk(b:aA)(ι:Env)(w:World):aA:=⟨w,fun g=>∃id,bz (ι id)=some g,b.pv⟩
theorem aU.step{d:Cx}{s:AS}{a:Act}{w w':World}{ι:Env}(h:aU d s a w ι){E E':Nat→Prop}(P:w'.os=w.os)(Q:w'.tape=w.tape)(R:w'.output=w.output)(m:w.heap.size≤w'.heap.size)
  (J:∀k,E k→d.M k) (I:∀k,k<w.heap.size→¬ E k→w'.heap[k]?=w.heap[k]?) (n:∀k,E' k→w.heap.size≤k∧k<w'.heap.size) :
  aU ⟨d.P,d.n,fun k=>d.M k∨E' k,xk d.w0 ι w'⟩ s a w' ι∧fQ E d.w0 (xk d.w0 ι w'):=by
 have q:∀{id g},bz (ι id)=some g→w'.heap[g]?=w.heap[g]?:=fun {id g} c=>I g (h.hs.own id g c).2 (fun C=>h.hs.sep (J g C) c);have B:∀b,b<w.heap.size→NN (fun k=>d.M k∨E' k) ι b→NN d.M ι b:=fun b f l=>by
  rcases l with (l|l)|l
  ·exact .inl l
  ·have:=(n b l).1;omega
  ·exact .inr l
 have t:∀b,b<w.heap.size→¬ NN d.M ι b→w'.heap[b]?=w.heap[b]?:=fun b f l=>I b f (fun C=>l (.inl (J b C)));refine⟨⟨⟨⟨rfl,rfl,rfl,ll _,fun _ _ _=>rfl⟩,fun b f=>?_,h.hs.use,fun id g c=>⟨.inr ⟨id,c⟩,u7 (h.hs.own id g c).2 m⟩,h.hs.inj,h.hs.ko,h.hs.kr,fun i cs D G=>?_,fun i ar D G=>?_,h.hs.pin⟩,h.dfr,h.n,fun k v p=>?_⟩,
  ⟨P.trans h.hs.below.os,Q.trans h.hs.below.tape,R.trans h.hs.below.output,RX h.hs.below.size m,fun k t S F=>(I k (u7 t h.hs.below.size) F).trans (h.hs.below.block k t S),fun g c=>?_,rfl⟩⟩
 ·rcases f with f|f
  ·exact⟨u7 (h.hs.old b f).1 (RX h.hs.below.size m),fun⟨id,o⟩=>h.hs.sep f o⟩
  ·exact⟨(n b f).2,fun⟨id,o⟩=>by have:=(n b f).1;have:=(h.hs.own id b o).2;omega⟩
 ·obtain⟨g,T,vs,u,z,A⟩:=h.hs.objs i cs D G;exact⟨g,T,vs,u,(q (id:=i) (by rw[u];rfl)).trans z,A.mono m B t (fun _ _ h=>h)⟩
 ·obtain⟨v',xs,u,z,A,M,N⟩:=h.hs.arrs i ar D G;refine⟨v',xs,u,fR z (fun g c=>q (id:=i) (by rw[u];exact c)),A,M,fun j e U K L p=>?_⟩;obtain⟨y,X,H⟩:=N j e U K L p;exact⟨y,X,H.mono m B t (fun _ h=>h) (fun r O=>q (id:=nm i (j*ar.sz+K)) (by rw[O];rfl)) (fun h=>h)⟩
 ·obtain⟨x,W,V⟩:=h.tmp k v p;exact⟨x,W,V.mono m B t (fun _ _ h=>h)⟩
 ·rcases c with c|⟨id,c⟩
  ·exact .inl (RX (RX h.hs.below.size m) c)
  ·exact(h.hs.own id g c).1
theorem HS.Zh{M l E:Nat→Prop}{b m:aA}{w:World}{ι:Env}{s:AS}(h:HS l m w ι s)(a:fQ E b m)(L:∀k,E k→b.w.heap.size≤k)(A:∀k,M k→l k∧k<b.w.heap.size∧¬ b.G k):HS M b w ι s:=by
 have B:∀b,b<w.heap.size→NN M ι b→NN l ι b:=fun b _ G=>G.elim (fun h=>.inl (A b h).1) .inr;refine⟨⟨h.below.os.trans a.os,h.below.tape.trans a.tape,h.below.output.trans a.output,RX a.size h.below.size,fun k c z=>?_⟩,fun k c=>(A k c).2,h.use,fun id g d=>⟨a.O g (h.own id g d).1,(h.own id g d).2⟩,h.inj,h.ko,h.kr,fun i cs t f=>?_,fun i ar t f=>?_,fun i v f=>h.pin i v (by rw[a.pv];exact f)⟩
 ·have I:¬ m.G k:=fun r=>by
   rcases a.O k (.inr r)with q|q
   ·exact absurd c (akq.2 q)
   ·exact z q
  exact(h.below.block k (u7 c a.size) I).trans (a.block k c z (fun N=>absurd c (by grind)))
 ·obtain⟨g,T,vs,n,o,p⟩:=h.objs i cs t f;exact⟨g,T,vs,n,o,p.mono (by omega) B (fun _ _ _=>rfl) (fun _ _ h=>h)⟩
 ·obtain⟨v',xs,n,o,p,D,F⟩:=h.arrs i ar t f;refine⟨v',xs,n,o,p,D,fun j e H K C u=>?_⟩;obtain⟨y,J,x⟩:=F j e H K C u;exact⟨y,J,x.mono (by omega) B (fun _ _ _=>rfl) (fun _ h=>h) (fun _ _=>rfl) (fun h=>h)⟩
def ii(v:AV)(x:Value):Prop:=∀N w ι,Rel N w ι v x
def xi(P:Program)(f:FuncId)(a:c6)(R:World→World→AV→Prop):Prop :=
 ∀M w xs,(∀b,M b→b<w.heap.size)→tB M w a xs →
  Calls P f xs w fun e w'=>∃x v,e=.returned x∧Below w.heap.size w w'∧R w w' v∧ii v x
def rC(P:Program)(f:FuncId)(a:c6)(E:Nat→Prop)(Φ:World→Prop)(V:AV)(R:World→Prop):Prop :=
 ∀(M:Nat→Prop) w xs,(∀b,M b→b<w.heap.size∧¬ E b)→(∀b,E b→b<w.heap.size)→Φ w→tB (fun b=>M b∨E b) w a xs →
  Calls P f xs w fun e w'=>∃x,e=.returned x∧w'.os=w.os∧w'.tape=w.tape∧w'.output=w.output∧w.heap.size≤w'.heap.size∧(∀k,k<w.heap.size→¬ E k→w'.heap[k]?=w.heap[k]?)∧R w'∧ii V x
theorem Np{c}{s}{a}{w}{ι}(f:aU c s a w ι){o}{g}{b}(d:eh s o=some (g,b))(e:cF c.P g=true):
  ∃xs,(execOp a.eval o).run c.P w=.ok (.enter g xs) w∧tB (NN c.M ι) w b xs:=by
 unfold eh at d;split at d
 ·grind[kx,Aj]
 grind
section
variable{d:Cx}{Q:Exit→Act→World→Prop}{l:dt}{s:AS}{j:Array Oper}{f:Func}{p:eb}{i:Nat}
theorem Ml{g:FuncId}{n:c6}{R:World→World→AV→Prop}(D:xi d.P g n R)
  (k:∀v w r,R w r.w v→(∀k,d.M k→k<d.w0.w.heap.size∧¬ d.w0.G k)→d.w0.w.heap.size≤w.heap.size→(∀k,r.G k→k<w.heap.size)→fQ (fun _=>False) d.w0 r→∃E:Nat→Prop,(∀k,E k→w.heap.size≤k∧k<r.w.heap.size)∧OT ⟨d.P,d.n,fun c=>d.M c∨E c,r⟩ Q l j (aV f p (i+1)) (s.put (aW f p i).dst v))
  (H:aV f p i=aW f p i::aV f p (i+1):=by kernel_rfl) (G:cH j s (aW f p i)=true:=by kernel_rfl) (u:cF d.P g=true:=by kernel_rfl)
  (z:eh s { aW f p i with guard:=none }=some (g,n):=by kernel_rfl) (F:cJ d.n (aW f p i).dst=true:=by kernel_rfl):OT d Q l j (aV f p i) s:=by
 rw[H];refine fu _ G fun a w ι q=>?_;refine aa6 rfl fun K B=>?_;unfold Oper.wp;obtain⟨xs,y,J⟩:=Np q z u;rw[y,aeq];refine (D (NN d.M ι) w xs (fun b m=>lW q.hs m) J).mono ?_
 rintro e w' ⟨x,v,rfl,m,C,I⟩
 obtain⟨E,A,o⟩:=k v w (xk d.w0 ι w') C q.hs.old q.hs.below.size (fun k ⟨id,o⟩=>(q.hs.own id k o).2) (q.step (E':=fun _=>False) m.os m.tape m.output m.size (fun _ h=>h.elim) (fun k o _=>m.block k o) (fun _ h=>h.elim)).2;have t:=(q.step (E:=fun _=>False) (E':=E) m.os m.tape m.output m.size (fun _ h=>h.elim) (fun k o _=>m.block k o) A).1;exact B _ _ (o _ _ _ (t.put (fU F) (I _ _ _)))
theorem OF{g:FuncId}{f:c6}{E:Nat→Prop}{Φ R:World→Prop}{V:AV}(C:rC d.P g f E Φ V R){o:Oper}{a:Act}{w:World}{ι:Env}(c:aU d s a w ι)(A:eh s o=some (g,f))(q:cF d.P g=true)(D:cJ d.n o.dst=true)
  (m:∀k,E k→d.M k) (K:∀w,d.w0.w.heap.size≤w.heap.size→(∀k,E k→w.heap[k]?=d.w0.w.heap[k]?)→Φ w) {Kn:Act→World→Prop} {z:Exit→Act→World→Prop}
  (k:∀n x w',fQ E d.w0 n→R n.w→n=xk d.w0 ι w'→aU ⟨d.P,d.n,d.M,n⟩ (s.put o.dst V) (a.put o.dst x) w' ι→Kn (a.put o.dst x) w'):o.wp d.P a w Kn z:=by
 unfold Oper.wp;obtain⟨xs,t,u⟩:=Np c A q;rw[t,aeq];have r:∀k,E k→k<w.heap.size:=fun k p=>u7 (c.hs.old k (m k p)).1 c.hs.below.size;refine (C (fun b=>NN d.M ι b∧¬ E b) w xs (fun b j=>⟨lW c.hs j.1,j.2⟩) r (K w c.hs.below.size (fun k p=>c.hs.below.block k (c.hs.old k (m k p)).1 (c.hs.old k (m k p)).2)) ⟨u.1,fun i v y I J=>(u.2 i v y I J).mono (ll _) (fun b _ j=>?_) (fun _ _ _=>rfl) (fun _ _ h=>h)⟩).mono ?_
 ·rcases j with j|j
  ·exact j.1
  ·exact .inl (m b j)
 rintro e w' ⟨x,rfl,L,M,N,O,q5,B,H⟩
 obtain⟨l,G⟩:=c.step (E:=E) (E':=fun _=>False) L M N O m q5 (fun _ h=>h.elim);refine k (xk d.w0 ι w') x w' G B rfl ?_;have F:(fun k=>d.M k∨False)=d.M:=by funext k;simp
 rw[F]at l;exact l.put (fU D) (H _ _ _)
theorem aaE{g}{b}{E}{Φ R}{V}(t:rC d.P g b E Φ V R)(q:∀k,E k→d.M k)(z:∀w,d.w0.w.heap.size≤w.heap.size→(∀k,E k→w.heap[k]?=d.w0.w.heap[k]?)→Φ w)
  (k:∀c,fQ E d.w0 c→R c.w→(∀k,d.M k→k<d.w0.w.heap.size∧¬ d.w0.G k)→OT ⟨d.P,d.n,d.M,c⟩ Q l j (aV f p (i+1)) (s.put (aW f p i).dst V))
  (y:aV f p i=aW f p i::aV f p (i+1):=by kernel_rfl) (v:cH j s (aW f p i)=true:=by kernel_rfl) (h:cF d.P g=true:=by kernel_rfl)
  (e:eh s { aW f p i with guard:=none }=some (g,b):=by kernel_rfl) (u:cJ d.n (aW f p i).dst=true:=by kernel_rfl):OT d Q l j (aV f p i) s:=by
 rw[y];refine fu _ v fun a w ι m=>?_;refine aa6 rfl fun K r=>?_;exact OF t m e h u q z (fun c x w' e n _ o=>r _ _ (k c e n m.hs.old _ _ _ o))
end
theorem ur{c}{g}{s}{f}{l}(h:ij c.P s g.results.toList=some l)(k:∀w ι x,HS c.M c.w0 w ι s→Rel (NN c.M ι) w ι (pH l) x→f (.returned x) w):VE c (bodyPost c.P g f) [] .ret s:=fun a w ι b=>by
 obtain⟨vs,j,e,d⟩:=C6 b h;refine⟨b.dfr,_,Li j,k w ι _ b.hs ?_⟩
 match l,vs,e,d with
 | [],[],_,d=>exact .tup _ _ _ rfl (fun i x v m _=>by grind)
 | [v],[y],_,d=>exact d 0 v y rfl rfl
 | v::u::r,y::z::q,e,d=>exact .tup _ _ _ e d
theorem Zk{P:Program}{f:FuncId}{o:Func}{c:Code}{d:c6}{R:World→World→AV→Prop}(t:P.funcs[f]?=some o)(j:o.body=some c)(n:Nat)(C:o.ntmps=n)(B:d.length≤n)
  (h:∀M w,VE ⟨P,n,M,mi w⟩ (bodyPost P o (fun e w'=>∃x v,e=.returned x∧Below w.heap.size w w'∧R w w' v∧ii v x)) [.c c] .normal ⟨idxs 0 d,[],[],[]⟩):xi P f d R:=by
 intro M w xs s r;refine alx t j ?_;refine amu (h M w { tmps:=xs++Array.replicate (o.ntmps-xs.size) undef,defers:=[] } w bG ?_) (fun e a w' u=>?_)
 ·refine⟨⟨⟨rfl,rfl,rfl,ll _,fun _ _ _=>rfl⟩,fun b j=>⟨s b j,fun h=>h⟩,fun i y A=>(by cases A),fun i g p=>(by cases p),fun i D g p=>(by cases p),fun i cs l=>(by cases l),fun i a l=>(by cases l),fun i cs l=>(by cases l),fun i a l=>(by cases l),fun i v z=>(by cases z)⟩,rfl,?_,fun k v q=>?_⟩
  ·have:=r.1;simp;omega
  ·rw[qW,lc (u6 _),akG]at q;have m:k<xs.size:=by rw[←r.1];exact(jf.1 q).1
   refine⟨xs[k],?_,(r.2 k v _ q (la m)).mono (ll _) (fun b _ j=>?_) (fun _ _ _=>rfl) (fun _ _ h=>h)⟩
   ·simp only[];rw[Dk m,la m]
   ·rcases j with j|⟨id,j⟩
    ·exact j
    ·cases j
 ·cases e<;>exact u
theorem aij{P:Program}{f:FuncId}{A:Func}{c:Code}{d args':c6}{E:Nat→Prop}{Φ R:World→Prop}{V:AV}{id0:Nat}{v0:Value}{ar:co}(hf:P.funcs[f]?=some A)(l:A.body=some c)(n:Nat)(hn:A.ntmps=n)(hl:d.length≤n)(Q:args'.length=d.length)
  (G:∀g,bz (some v0)=some g→E g)
  (o:∀w,Φ w→∃H,w.ownsRow 0 ar.e ar.sz v0 ar.l.length H∧(∀e∈ar.l,e.length=ar.sz)∧(∀x∈H,x.oneCell'=true)∧∀(j:Nat) (e:c6),ar.l[j]?=some e→∀(i:Nat) (c:AV),e[i]?=some c→∃x,H[j*ar.sz+i]?=some x∧ii c x)
  (B:∀(N:Nat→Prop) (w:World) (i:Nat) (a b:AV) (x:Value),d[i]?=some a→args'[i]?=some b→Rel N w bG a x→Rel N w (ext bG id0 v0) b x)
  (h:∀M w,(∀g,E g→bz (some v0)≠some g→M g)→Φ w→VE ⟨P,n,M,mO w id0 v0⟩ (bodyPost P A (fun e w'=>∃x,e=.returned x∧w'.os=w.os∧w'.tape=w.tape∧w'.output=w.output∧w.heap.size≤w'.heap.size∧(∀k,k<w.heap.size→¬ E k→w'.heap[k]?=w.heap[k]?)∧R w'∧ii V x)) [.c c] .normal ⟨idxs 0 args',[],[(id0,ar)],[id0,da id0]⟩):rC P f d E Φ V R:=by
 intro M w xs T Y U z;obtain⟨H,o,D,F,K⟩:=o w U;refine alx hf l ?_;have W:∀i y,ext bG id0 v0 i=some y→i=id0∧y=v0:=fun i y u=>by
  by_cases e:i=id0
  ·subst e;rw[cI]at u;injection u with u;exact⟨rfl,u.symm⟩
  ·rw[bS _ _ e]at u;cases u
 have p:∀i g,bz (ext bG id0 v0 i)=some g→i=id0∧bz (some v0)=some g:=fun i g q=>by
  cases C:ext bG id0 v0 i with
  | none=>rw[C]at q;cases q
  | some y=>obtain⟨I,J⟩:=W i y C;rw[C,J]at q;exact⟨I,q⟩
 have S:args'.length=xs.size:=by rw[Q];exact z.1
 refine amu (h (fun b=>M b∨(E b∧bz (some v0)≠some b)) w (fun g I J=>.inr ⟨I,J⟩) U { tmps:=xs++Array.replicate (A.ntmps-xs.size) undef,defers:=[] } w (ext bG id0 v0) ?_) (fun e a w' hq=>?_)
 ·refine⟨⟨⟨rfl,rfl,rfl,ll _,fun _ _ _=>rfl⟩,fun b l=>?_,fun i y u=>?_,fun i g q=>⟨.inr (p i g q).2,HT o (p i g q).2⟩,fun i i' g q L=>(p i g q).1.trans (p i' g L).1.symm,fun i cs m=>(by cases m),fun i a m=>?_,fun i cs m=>(by cases m),fun i a m hp=>?_,fun i v hv=>?_⟩,rfl,?_,fun k v O=>?_⟩
  ·rcases l with l|l
   ·exact⟨(T b l).1,fun q=>(T b l).2 (G b q)⟩
   ·exact⟨Y b l.1,l.2⟩
  ·rw[(W i y u).1];exact fk (by simp)
  ·simp only[look]at m;split at m
   ·rename_i e;subst e;exact fk (by simp)
   ·cases m
  ·simp only[look]at m;split at m
   ·rename_i e;subst e;injection m with m;subst m
    exact⟨v0,H,cI _ _ _,o,D,F,fun j e C k c Z=>by obtain⟨x,z,hr⟩:=K j e C k c Z;exact⟨x,z,.inl (hr _ _ _)⟩⟩
   ·cases m
  ·have r:(if i=id0 then some v0 else none)=some v:=hv;split at r
   ·rename_i e;subst e;injection r with r;subst r
    exact⟨cI _ _ _,by simp⟩
   ·cases r
  ·have:=z.1;simp;omega
  ·rw[qW,lc (u6 _),akG]at O;have s:k<xs.size:=by rw[←S];exact(jf.1 O).1
   have t:k<d.length:=by rw[z.1];exact s
   refine⟨xs[k],?_,?_⟩
   ·simp only[];rw[Dk s,la s]
   ·have X:=B _ w k _ v _ (jt t) O (z.2 k _ _ (jt t) (la s));refine X.mono (ll _) (fun b _ l=>?_) (fun _ _ _=>rfl) (fun _ _ h=>h);rcases l with (l|l)|⟨id,l⟩
    ·exact .inl l
    ·exact .inr l.1
    ·exact .inr (G b (p id b l).2)
 ·cases e<;>exact hq
section
variable{d:Cx}{ops:Array Oper}{c:er}{σ g:Nat→AS}{l f:AS}
theorem dp.ZJ{R:Exit→Act→World→Prop}(V:Stat ops c 0)(X:nt d.P d.n l ops c 0 σ){z:Nat}(U:c.length=z)(G:z+1≤ops.size)(m:rN ops (z+1)=true)(P:∀(o:Oper),ops[z]?=some o→∀j∈cZ o,j<z)(S:∀a w ι,aU d (σ 0) a w ι→wpList d.P ops R (ops.toList.drop (z+1)) a w):
  ∀(g:Nat) (listed:Array Bool) (a:Act) (w:World) (k:Nat) (ι:Env),jx listed=g→listed[z]?=some true→(∀i,z+1≤i→listed[i]?≠some true)→dp d ops c 0 σ listed a w k ι→wpAny d.P .any ops R g listed a w:=by
 have p:∀(n:Nat) (o:Oper),n<z+1→ops[n]?=some o→∀j∈cZ o,j<n:=fun n o hn x=>by
  by_cases e:n=z
  ·subst e;exact P o x
  ·exact V.lex n _ _ x (jt (by rw[U];omega))
 have C:∀(listed:Array Bool) (a:Act) (w:World) (k:Nat) (ι:Env),dp d ops c 0 σ listed a w k ι→(∀i,i<z+1→listed[i]?=some true)→aU d (σ 0) a w ι:=by
  intro listed a w k ι h f;have hk:k=0:=by have:=h.kK;omega
  subst hk;exact⟨h.hs,h.dfr,h.n,fun t v hv=>h.tmp t v hv (fun i o tg _ O _ _=>f i (by have:=(jf.1 O).1;omega))⟩
 intro g
 induction g with
 | zero =>
  intro listed a w k ι I B u h;have f:∀i,i<z+1→listed[i]?=some true:=fun i A=>AK I i (by rw[h.sz];omega);exact TN m p 0 listed a w (z+1) I (ll _) G h.sz (fun i A=>⟨fun y=>afF fun D=>u i (by omega) y,f i⟩) (S a w ι (C listed a w k ι h f))
 | succ g ih =>
  intro listed a w k ι I B u h;by_cases f:∀i,i<z+1→listed[i]?=some true
  ·exact TN m p (g+1) listed a w (z+1) I (ll _) G h.sz (fun i A=>⟨fun y=>afF fun D=>u i (by omega) y,f i⟩) (S a w ι (C listed a w k ι h f))
  ·refine⟨fun hr=>?_,fun i A=>?_⟩
   ·exfalso;apply f;intro i
    induction i using Nat.strongRecOn with
    | _ i Q =>
     intro A;have x:=la (xs:=ops) (show i<ops.size by omega);cases E:listed[i]? with
     | none=>rw[akC,h.sz]at E;omega
     | some b =>
      cases b with
      | true=>rfl
      | false =>
       exfalso;have J:i∈Region.ready .any ops listed:=by
        unfold Region.ready;simp only[akB,aa8,iN,By];refine⟨by omega,by rw[u5,E];rfl,?_⟩;rw[x];simp only[aaU,Ts,adn,Io,By];intro e Z;by_cases H:Region.binds .any e=true
        ·right;have N:e.on∈cZ ops[i]:=wH.2 ⟨e,Z,H,rfl⟩;have F:=p i _ A x e.on N;rw[u5,Q e.on F (by omega)];rfl
        ·left;simpa using H
       rw[hr]at J;cases J
   ·obtain⟨s,o,x,K⟩:=lA A;have L:i<ops.size:=(qk.1 x).1;have r:i<listed.size:=by rw[h.sz];exact L
    have hf:listed[i]?=some false:=by
     rw[la r]at s⊢;cases H:listed[i] with
     | true=>rw[H]at s;exact(s rfl).elim
     | false=>rfl
    have a0:=yY hf;have M:i<z:=by
     refine afF fun D=>f fun q T=>?_;have b0:i≠z:=fun e=>by subst e;exact s B
     obtain⟨_,Y⟩:=xU m (by omega) x;exact wR h.cl i _ (fun j N=>K j N) q (Y q (by omega))
    refine h.one V X (by rw[U];exact M) A (fun W w' k' ι' J=>ih _ W w' k' ι' (by omega) ((dJ r).2 (.inr B)) (fun q T y=>?_) J);rcases (dJ r).1 y with e|y
    ·omega
    ·exact u q T y
theorem dp.abF{M:Exit→Act→World→Prop}(V:Stat ops c 0)(X:nt d.P d.n l ops c 0 σ){z:Nat}{D:Oper}(S:c.length=z)(T:z+1≤ops.size)(t:rN ops (z+1)=true)(x:ops[z]?=some D)(K:∀j∈cZ D,j<z)(O:D.guard=none)
  (J:∀(listed:Array Bool) (a:Act) (w:World) (ι:Env),dp d ops c 0 σ listed a w 0 ι→listed[z]?≠some true→(∀j∈cZ D,listed[j]?=some true)→∀(Kn:Act→World→Prop),(∀n g f B w',nt n.P n.n f ops c 0 g→dp n ops c 0 g (listed.setIfInBounds z true) B w' 0 ι→(∀a w ι,aU n (g 0) a w ι→wpList n.P ops M (ops.toList.drop (z+1)) a w)→n.P=d.P→Kn B w')→D.wp d.P a w Kn M) :
  ∀(m:Nat) (listed:Array Bool) (a:Act) (w:World) (k:Nat) (ι:Env),jx listed=m→(∀i,z≤i→listed[i]?≠some true)→dp d ops c 0 σ listed a w k ι→wpAny d.P .any ops M m listed a w:=by
 intro m
 induction m with
 | zero =>
  intro listed a w k ι W r h;exact absurd (AK W z (by rw[h.sz];omega)) (r z (ll _))
 | succ m ih =>
  intro listed a w k ι W r h;refine⟨fun hr=>?_,fun i P=>?_⟩
  ·exfalso;have key:∀i,i<z+1→listed[i]?=some true:=by
    intro i
    induction i using Nat.strongRecOn with
    | _ i U =>
     intro P;have s:=la (xs:=ops) (show i<ops.size by omega);cases H:listed[i]? with
     | none=>rw[akC,h.sz]at H;omega
     | some b =>
      cases b with
      | true=>rfl
      | false =>
       exfalso;have C:i∈Region.ready .any ops listed:=by
        unfold Region.ready;simp only[akB,aa8,iN,By];refine⟨by omega,by rw[u5,H];rfl,?_⟩;rw[s];simp only[aaU,Ts,adn,Io,By];intro e he;by_cases L:Region.binds .any e=true
        ·right;have G:e.on∈cZ ops[i]:=wH.2 ⟨e,he,L,rfl⟩;have I:e.on<i:=by
          by_cases A:i<z
          ·exact V.lex i _ _ s (jt (by rw[S];exact A)) e.on G
          ·have:i=z:=by omega
           subst this;rw[x]at s;injection s with s
           rw[←s]at G;exact K _ G
         rw[u5,U e.on I (by omega)];rfl
        ·left;simpa using L
       rw[hr]at C;cases C
   exact r z (ll _) (key z (by omega))
  ·obtain⟨u,o,s,E⟩:=lA P;have Q:i<ops.size:=(qk.1 s).1;have p:i<listed.size:=by rw[h.sz];exact Q
   have hf:listed[i]?=some false:=by
    rw[la p]at u⊢;cases L:listed[i] with
    | true=>rw[L]at u;exact(u rfl).elim
    | false=>rfl
   have b0:=yY hf;by_cases A:i=z
   ·subst A;rw[x]at s;injection s with s;subst s
    have hk:k=0:=by have:=h.kK;omega
    subst hk;unfold wpOp;simp only[x];have hw:Region.wanted D (yielded ops a.tmps)=true:=by simp[Region.wanted,O]
    rw[lc hw];refine .inl (J listed a w ι h u E _ fun n g f B w' N C R Z=>?_);have:=dp.ZJ V N S T t (fun o' v=>by rw[x]at v;injection v with v;subst v;exact K) R m _ B w' 0 ι (by omega) ((dJ p).2 (.inl rfl)) (fun q c0 y=>by
     rcases (dJ p).1 y with e|y
     ·omega
     ·exact r q (by omega) y) C
    rw[Z]at this;exact this
   ·have F:i<z:=by
     refine afF fun a0=>?_;obtain⟨_,Y⟩:=xU t (by omega) s;exact r z (ll _) (wR h.cl i _ (fun j G=>E j G) z (Y z (by omega)))
    refine h.one V X (by rw[S];exact F) P (fun B w' k' ι' C=>ih _ B w' k' ι' (by omega) (fun q R y=>?_) C);rcases (dJ p).1 y with e|y
    ·omega
    ·exact r q R y
end
theorem Lt{α:Type}:∀(m l l':List (Nat×α)) (k:Nat),(∃p∈m,p.1=k)→look k (gZ m l)=look k (gZ m l')
 | [],l,l',k,⟨p,a,_⟩=>by cases a
 | (j,x)::r,l,l',k,⟨p,a,e⟩=>by
  by_cases h:∃q∈r,q.1=k
  ·exact Lt r _ _ k h
  ·rcases oR.1 a with rfl|a
   ·have key:∀(r l:List (Nat×α)),(¬ ∃q∈r,q.1=k)→look k (gZ r l)=look k l:=by
     intro r
     induction r with
     | nil=>intro l _;rfl
     | cons q r n =>
      intro l b;obtain⟨c,d⟩:=q;show look k (gZ r (bm c d l))=_;rw[n _ (fun⟨o,g,i⟩=>b ⟨o,ol _ g,i⟩),cv,kb (fun f=>b ⟨(c,d),ti,f.symm⟩)]
    grind[look,gZ,bm,cv]
   grind
theorem WD{s:AS}{o:Oper}(t:h8)(d:∀x∈o.op.operands.toList,(s.tt t).ev x=s.ev x):eh (s.tt t) o=eh s o:=by
 unfold eh;cases b:o.op with
 | call c =>
  simp only;cases a:c.callee with
  | value e =>
   simp only;have f:=d e (by simp[b,Op.operands,Call.operands,a]);have g:dk (s.tt t) c.args.toList=dk s c.args.toList:=qu (fun x h=>d x (by simp[b,Op.operands,Call.operands,a];exact .inr (Do.1 h)));rw[f,g]
  | _=>rfl
 | _=>rfl
theorem J9{α}{k}:∀(r l:List (Nat×α)),(¬ ∃q∈r,q.1=k)→look k (gZ r l)=look k l
 | [],l,_=>rfl
 | (b,c)::r,l,a=>by
  show look k (gZ r (bm b c l))=_;rw[J9 r _ (fun⟨g,e,f⟩=>a ⟨g,ol _ e,f⟩),cv,kb (fun d=>a ⟨(b,c),ti,d.symm⟩)]
def CY(o:Oper):eb:=o.op.operands.toList.filterMap fun x=>match x with|.tmp t=>some t|_=>none
def Ui(ops:Array Oper)(z d:Nat):Bool:=match ops[z]? with
 | some a=>(match a.dst with|some b=>Nat.beq b d|none=>false)&&((match a.guard with|none=>true|some _=>false)&&((List.range z).all fun j=>match ops[j]? with
  | some c=>(match c.dst with|some t=>(match Nat.beq t d with|true=>false|false=>true)&&(match (CY a).contains t with|true=>(cZ a).contains j|false=>true)|none=>true)
  | none=>false))
 | none=>false
theorem ae3{l:Cx}{Q:Exit→Act→World→Prop}{ks:dt}{f:Func}{p:eb}{A:AS}{c:er}(z d:Nat)(u:h8){g:FuncId}{F:c6}{E:Nat→Prop}{Φ R:World→Prop}{V:AV}(t0:rC l.P g F E Φ V R)
  (hE:∀k,E k→l.M k) (hΦ:∀w,l.w0.w.heap.size≤w.heap.size→(∀k,E k→w.heap[k]?=l.w0.w.heap[k]?)→Φ w)
  (Z:fd l.P l.n A (dG f p) 0 [gt A u [] []] (aV f p 0) c) (L:fd l.P l.n (A.put (some d) V) (dG f p) 0 [gt (A.put (some d) V) u [] []] (aV f p 0) c)
  (h:∀U,fQ E l.w0 U→R U.w→(∀k,l.M k→k<l.w0.w.heap.size∧¬ l.w0.G k)→OT ⟨l.P,l.n,l.M,U⟩ Q ks (dG f p) (aV f p (z+1)) (gt (A.put (some d) V) u [] []))
  (x0:cJ l.n (some d)=true:=by kernel_rfl) (v0:cF l.P g=true:=by kernel_rfl) (h1:eh (gt A u [] []) (aW f p z)=some (g,F):=by kernel_rfl)
  (C:Ui (dG f p) z d=true:=by kernel_rfl) (W:nk f p=true:=by kernel_rfl) (hm:l.P.follows .mixedOrders=true:=by kernel_rfl) (hs:xW (dG f p) c 0 z=true:=by kernel_rfl) (s:nH (aV f p 0) c u=true:=by kernel_rfl)
  (hz:(Nat.ble (z+1) (dG f p).size&&(rN (dG f p) (z+1)&&(cZ (aW f p z)).all fun j=>Nat.ble (j+1) z))=true:=by kernel_rfl):VE l Q (.c (cat f p)::ks) .normal A:=by
 have e0:aV f p 0=(dG f p).toList:=by simp[aV]
 have ez:aV f p (z+1)=(dG f p).toList.drop (z+1):=rfl;have m0:∀y,(dG f p)[z]?=some y→aW f p z=y:=fun y H=>by
  unfold aW;obtain⟨S0,he⟩:=qk.1 H;rw[ls (by rw[If];exact S0)];simp[he]
 rw[ez]at h;cases M:cat f p with
 | region id ops b =>
  cases b with
  | false=>unfold nk at W;rw[M]at W;cases W
  | true =>
   have ho:dG f p=ops:=by unfold dG;rw[M];rfl
   rw[e0]at Z L s;rw[ho]at Z L s hs h hz C m0;simp only[iN]at hz;obtain⟨T,c1,p0⟩:=hz;have T:=j3 T;unfold Ui at C;split at C
   case h_2=>cases C
   rename_i y H;rw[m0 y H]at h1 p0;simp only[iN,ne,aa8]at C;obtain⟨B,J,a0⟩:=C;have B:y.dst=some d:=by
    split at B
    ·rename_i d' w0;rw[w0,mo B]
    ·cases B
   have J:y.guard=none:=by
    cases X:y.guard with
    | none=>rfl
    | some _=>rw[X]at J;cases J
   have d1:∀j∈cZ y,j<z:=fun j D=>j3 (ne.1 p0 j D);have g0:∀j K t,j<z→ops[j]?=some K→K.dst=some t→t≠d∧(t∈CY y→j∈cZ y):=fun j K t D m ht=>by
    have:=a0 j D;rw[m]at this;simp only[ht,iN]at this;refine⟨fun e=>?_,fun hm=>?_⟩
    ·rw[e]at this;rw[show Nat.beq d d=true from al3 d]at this;cases this.1
    ·have Y:=this.2;rw[show(CY y).contains t=true by simpa using hm]at Y;simpa using Y
   intro a w ι o0;obtain⟨st,f0,_⟩:=Ea hs rfl;have dy:=Cy (P:=l.P) (n:=l.n) c 0 u [] [] [gt A u [] []] s rfl rfl rfl Z;have A0:∀q∈u,∃(i:Nat) (o:Oper),i<z∧ops[i]?=some o∧o.dst=some q.1:=fun q X=>by
    obtain⟨i,o,tg,g1,g2,_,g4⟩:=F9 s q X;exact⟨i,o,by have:=(jf.1 g2).1;omega,by simpa using g1,g4⟩
   refine aml hm (dp.abF st dy f0 T c1 H d1 J (fun listed a w ι r f1 b0 Kn r0=>?_) ops.size _ a _ 0 ι (by simp[jx]) (fun q _ hh=>?_) (dp.start st dy o0))
   case refine_2=>rw[aks]at hh;split at hh<;>cases hh
   have G:z<listed.size:=by rw[r.sz];omega
   have a1:∀t,t∈CY y→eJ ops c listed t=true:=fun t ht=>ku.2 fun j K tj m b1 _ N=>by
    have D:j<z:=by have:=(jf.1 b1).1;omega
    exact b0 j ((g0 j K t D m N).2 ht)
   have q0:eh (((nth [gt A u [] []]) 0).tt (cu (eJ ops c listed) ((nth [gt A u [] []]) 0).t)) y=some (g,F):=by
    rw[WD _ (fun x hx=>?_)]
    ·exact h1
    ·cases x with
     | tmp t =>
      show look t (cu _ _)=look t _;rw[eQ,lc (a1 t (alH.2 ⟨.tmp t,hx,rfl⟩))]
     | _=>rfl
   refine OF t0 r.Lz q0 v0 (by rw[B];exact x0) hE hΦ (fun U x w' hG hR _ I=>?_);refine r0 ⟨l.P,l.n,l.M,U⟩ (nth [gt (A.put (some d) V) u [] []]) _ _ _ (Cy (P:=l.P) (n:=l.n) c 0 u [] [] [gt (A.put (some d) V) u [] []] s rfl rfl rfl L) ?_ (fun a w ι hs=>h U hG hR r.hs.old a w ι hs) rfl;rw[B]at I⊢;refine⟨by simp[r.sz],fun j K m D j' c0=>?_,ll _,fun j m' d0=>?_,I.hs.of_eq rfl rfl rfl,fun j K e1 d' m D T0 N h0=>?_,I.dfr,I.n,fun t v hv l0=>?_⟩
   ·rw[dJ G]at D⊢;rcases D with rfl|D
    ·rw[H]at m;injection m with m;subst m;exact .inr (b0 j' c0)
    ·exact .inr (r.cl j K m D j' c0)
   ·have y0:j<ops.size:=by have:=(jf.1 d0).1;omega
    have:=st.chain j _ m' (la y0) d0;omega
   ·exact r.al j K e1 d' m D T0 N (fun hh=>h0 ((dJ G).2 (.inr hh)))
   ·have i0:(∀(i:Nat) (o:Oper) (tg:Tag),ops[i]?=some o→c[i]?=some tg→tg.f9=true→o.dst=some t→listed[i]?=some true):=fun i o tg h1 Y Z h4=>by
     have hi:i<z:=by have:=(jf.1 Y).1;omega
     rcases (dJ G).1 (l0 i o tg h1 Y Z h4)with e|e
     ·omega
     ·exact e
    have k0:=ku.2 i0;have S:look t (gZ u (bm d V A.t))=some v:=hv;refine I.tmp t v ?_;show look t (bm d V (cu (eJ ops c listed) (gZ u A.t)))=some v;rw[cv,eQ,lc k0];by_cases O:∃q∈u,q.1=t
    ·obtain⟨q,X,rfl⟩:=O;obtain⟨i,o,g1,g2,g3⟩:=A0 q X;rw[kb (g0 i o q.1 g1 g2 g3).1,← Lt u _ _ q.1 ⟨q,X,rfl⟩];exact S
    ·rw[J9 _ _ O,cv]at S;rw[J9 _ _ O];exact S
 | _=>unfold nk at W;rw[M]at W;cases W
end Go.Proofs.YtocgkfoifehcbaaGreat

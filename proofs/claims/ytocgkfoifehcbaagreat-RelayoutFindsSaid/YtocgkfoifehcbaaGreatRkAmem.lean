/- Abstract memory: what a store, a new variable, a new slice does to the state. No program in sight. -/
import Derived.Test.YtocgkfoifehcbaaGreatRkAbs
namespace Go.Proofs.YtocgkfoifehcbaaGreat
set_option linter.all false
open Go.RowKit
abbrev c6:=List AV
def u4:=@Below.heap_alloc
def alL:=@heap_alloc_new
def amt:=@setRow_heap
theorem eP{w:World}{g b}{c}(h:b≠g):(w.setRow g c).heap[b]?=w.heap[b]?:=setRow_other w g b c h
theorem HS.setObj{M:Nat→Prop}{I:aA}{w:World}{ι:Env}{s:AS}(h:HS M I w ι s){id g:Nat}{T:Tj id}{vs:Array Value}{t:c6}{l:ee}
  (p:ι id=some (.pointer (some ⟨g,0,none⟩))) (Q:w.heap[g]?=some (.cells vs T.1 (0,0))) (P:Cells (NN M ι) w ι t l) :
  HS M I (w.setRow g l.toArray) ι { s with o:=bm id t s.o }:=by
 have n:bz (ι id)=some g:=by rw[p];rfl
 obtain⟨A,S⟩:=h.own id g n;have J:∀b,¬ NN M ι b→(w.setRow g l.toArray).heap[b]?=w.heap[b]?:=fun b m=>eP (fun e=>m (.inr ⟨id,by rw[e];exact n⟩));have d:∀b,b<w.heap.size→¬ NN M ι b→(w.setRow g l.toArray).heap[b]?=w.heap[b]?:=fun b _ m=>J b m;refine⟨?_,h.old,h.use,fun i k z=>?_,h.inj,fun i cs f=>?_,h.kr,fun i cs f E=>?_,fun i a f E=>?_,h.pin⟩
 ·exact h.below.trans ⟨rfl,rfl,rfl,by simp,fun k z O=>eP (fun e=>by subst e;rcases A with A|A;omega;exact O A)⟩
 ·have:=h.own i k z;simp;exact this
 ·simp only[cv]at f;by_cases e:i=id
  ·subst e;exact h.use i _ p
  ·rw[kb e]at f;exact h.ko i cs f
 ·simp only[cv]at f;by_cases e:i=id
  ·subst e;rw[lc rfl]at f;injection f with f;subst f
   exact⟨g,T,l.toArray,p,amt w g vs _ T.1 _ Q,by simpa using P.mono (by simp) (fun b _ m=>m) d (fun _ _ h=>h)⟩
  ·rw[kb e]at f;obtain⟨u,T',G,q,y,B⟩:=h.objs i cs f E;have D:u≠g:=fun K=>e (h.inj i id g (by rw[q,K];rfl) n);exact⟨u,T',G,q,(eP D).trans y,B.mono (by simp) (fun b _ m=>m) d (fun _ _ h=>h)⟩
 ·obtain⟨v,xs,q,y,B,L,N⟩:=h.arrs i a f E;refine⟨v,xs,q,fR y (fun u C=>eP ?_),B,L,fun j e R k c z=>?_⟩
  ·intro e;subst e;have:=h.inj i id u (by rw[q];exact C) n;subst this;rw[q]at p;injection p with p
   subst p;rcases y.2 with⟨H,_⟩|⟨_,_,_,H,_⟩<;>cases H
  ·obtain⟨x,V,U⟩:=N j e R k c z;exact⟨x,V,U.mono (by simp) (fun b _ m=>m) d (fun _ h=>h) (fun r F=>eP (fun e=>h.nV F p (fun _ e=>by cases e) (by rw[e];rfl))) (fun h=>h)⟩
theorem aU.world{c}{s}{a}{w w'}{ι ι'}(h:aU c s a w ι){s'}(g:HS c.M c.w0 w' ι' s')(i:s'.t=s.t)(m:w.heap.size≤w'.heap.size)
  (e:∀b,b<w.heap.size→NN c.M ι' b→NN c.M ι b) (j:∀b,b<w.heap.size→¬ NN c.M ι b→w'.heap[b]?=w.heap[b]?) (n:∀id y,ι id=some y→ι' id=some y):aU c s' a w' ι' :=
 ⟨g,h.dfr,h.n,fun k v d=>by
  rw[i]at d;obtain⟨x,l,f⟩:=h.tmp k v d;exact⟨x,l,f.mono m e j n⟩⟩
def ext(ι:Env)(d:Nat)(v:Value):Env:=fun i=>if i=d then some v else ι i
theorem cI ι d v:ext ι d v d=some v:=by simp[ext]
theorem bS ι{d i} v(h:i≠d):ext ι d v i=ι i:=by simp[ext,h]
theorem ff{ι}{d}(h:ι d=none) v:∀id y,ι id=some y→ext ι d v id=some y:=fun id y a=>by
 grind[bS]
theorem gg{M}{ι}{d}{v}{b}(h:NN M (ext ι d v) b):NN M ι b∨bz (some v)=some b:=by
 rcases h with h|⟨id,h⟩
 ·exact .inl (.inl h)
 ·by_cases e:id=d
  ·grind[cI]
  ·rw[bS _ _ e]at h;exact .inl (.inr ⟨id,h⟩)
theorem HS.free{M}{a}{w}{ι}{s}(h:HS M a w ι s){d}(b:has s.u d=false):ι d=none:=by
 cases e:ι d with
 | none=>rfl
 | some y=>have:=h.use d y e;grind
theorem qK{u:eb}{d i}(h:u.contains i=true):(d::u).contains i=true:=by
 grind
theorem dY{u}{d i}(h:has u i=true):has (d::u) i=true:=by
 grind[has]
theorem jv u d:has (d::u) d=true:=fk (by simp)
theorem jc.alloc{b}{v w}(h:jc b v w)(a:b.w.heap.size≤w.heap.size) o:jc b v (w.alloc o) :=
 h.trans (.of ((Below.refl w.heap.size w).alloc (by omega) o) a)
theorem HS.alloc{M:Nat→Prop}{N:aA}{w:World}{ι:Env}{s:AS}(h:HS M N w ι s){d:Nat}(P:has s.u d=false){T:TypeId}(V:tyName d T){cs:c6}{vs:ee}(W:Cells (NN M ι) w ι cs vs):
  HS M N (w.alloc (.cells vs.toArray T)) (ext ι d (.pointer (some ⟨w.heap.size,0,none⟩))) { s with o:=bm d cs s.o,u:=d::s.u }:=by
 have Y:=h.free P;have z:N.w.heap.size≤w.heap.size:=h.below.size;have E:∀b,b<w.heap.size→¬ NN M ι b→(w.alloc (.cells vs.toArray T)).heap[b]?=w.heap[b]?:=fun b O _=>u4 _ _ _ O;have I:∀b,b<w.heap.size→NN M (ext ι d (.pointer (some ⟨w.heap.size,0,none⟩))) b→NN M ι b:=fun b O q=>by
  rcases gg q with q|q
  ·exact q
  ·injection q with q;simp only[]at q;omega
 have C:=ff Y (.pointer (some ⟨w.heap.size,0,none⟩));refine⟨h.below.alloc z _,h.old,fun i y Q=>?_,fun i g l=>?_,fun i D g l f=>?_,fun i p m=>?_,fun i a m=>dY (h.kr i a m),fun i p m n=>?_,fun i a m n=>?_,fun i v n=>⟨C i v (h.pin i v n).1,qK (h.pin i v n).2⟩⟩
 ·by_cases e:i=d
  ·subst e;exact jv _ _
  ·rw[bS _ _ e]at Q;exact dY (h.use i y Q)
 ·by_cases e:i=d
  ·subst e;rw[cI]at l;injection l with l;simp only[]at l;subst l;exact⟨.inl z,by simp⟩
  ·rw[bS _ _ e]at l;exact⟨(h.own i g l).1,by have:=(h.own i g l).2;simp;omega⟩
 ·by_cases e:i=d
  ·by_cases A:D=d
   ·omega
   ·subst e;rw[cI]at l;rw[bS _ _ A]at f;injection l with l;simp only[]at l
    have:=(h.own D g f).2;omega
  ·by_cases A:D=d
   ·subst A;rw[cI]at f;rw[bS _ _ e]at l;injection f with f;simp only[]at f
    have:=(h.own i g l).2;omega
   ·rw[bS _ _ e]at l;rw[bS _ _ A]at f;exact h.inj i D g l f
 ·simp only[cv]at m;by_cases e:i=d
  ·subst e;exact jv _ _
  ·rw[kb e]at m;exact dY (h.ko i p m)
 ·simp only[cv]at m;by_cases e:i=d
  ·subst e;rw[lc rfl]at m;injection m with m;subst m
   exact⟨w.heap.size,⟨T,V⟩,vs.toArray,cI _ _ _,alL w _,by simpa using W.mono (by simp) I E C⟩
  ·rw[kb e]at m;rw[bS _ _ e]at n;obtain⟨B,T',L,t,G,H⟩:=h.objs i p m n;have K:=(h.own i B (by rw[t];rfl)).2;exact⟨B,T',L,(bS _ _ e).trans t,(u4 _ _ _ K).trans G,H.mono (by simp) I E C⟩
 ·have e:i≠d:=by rintro rfl;have:=h.kr i a m;rw[P]at this;cases this
  rw[bS _ _ e]at n;obtain⟨v,xs,t,G,H,S,U⟩:=h.arrs i a m n;refine⟨v,xs,(bS _ _ e).trans t,fR G (fun B f=>u4 _ _ _ (h.own i B (by rw[t];exact f)).2),H,S,fun j R X k c J=>?_⟩;obtain⟨x,hx,Z⟩:=U j R X k c J;exact⟨x,hx,Z.mono (by simp) I E (fun r F=>C _ _ F) (fun r F=>u4 _ _ _ (h.j9 F)) (fun h=>h)⟩
theorem HS.fresh{M:Nat→Prop}{A:aA}{w:World}{ι:Env}{s:AS}(h:HS M A w ι s)(o:Obj):HS M A (w.alloc o) ι s:=by
 have y:A.w.heap.size≤w.heap.size:=h.below.size;have B:∀b,b<w.heap.size→¬ NN M ι b→(w.alloc o).heap[b]?=w.heap[b]?:=fun b d _=>u4 _ _ _ d;refine⟨h.below.alloc y _,h.old,h.use,fun i g C=>?_,h.inj,h.ko,h.kr,fun i l p u=>?_,fun i a p u=>?_,h.pin⟩
 ·exact⟨(h.own i g C).1,by have:=(h.own i g C).2;simp;omega⟩
 ·obtain⟨e,T',z,f,m,n⟩:=h.objs i l p u;have t:=(h.own i e (by rw[f];rfl)).2;exact⟨e,T',z,f,(u4 _ _ _ t).trans m,n.mono (by simp) (fun b _ d=>d) B (fun _ _ h=>h)⟩
 ·obtain⟨v,xs,f,m,n,F,G⟩:=h.arrs i a p u;refine⟨v,xs,f,fR m (fun e H=>u4 _ _ _ (h.own i e (by grind)).2),n,F,fun j D I k c q=>?_⟩;obtain⟨x,K,J⟩:=G j D I k c q;exact⟨x,K,J.mono (by simp) (fun b _ d=>d) B (fun _ h=>h) (fun r E=>u4 _ _ _ (h.j9 E)) (fun h=>h)⟩
theorem lW{M}{c}{w}{ι}{s}(h:HS M c w ι s){b}(a:NN M ι b):b<w.heap.size:=by
 rcases a with a|⟨id,a⟩
 ·exact u7 (h.old b a).1 h.below.size
 ·exact(h.own id b a).2
theorem Lv{M:Nat→Prop}{n:aA}{w:World}{ι:Env}{s:AS}(h:HS M n w ι s){T:TypeId}{sz:Nat}{l:List c6}{vs:ee}(m:∀e∈l,e.length=sz)(o:∀v∈vs,v.oneCell'=true)
  (f:∀(j:Nat) (e:c6),l[j]?=some e→∀(i:Nat) (x:AV),e[i]?=some x→∃v,vs[j*sz+i]?=some v∧Rel (NN M ι) w bG x v) :
  Rel (NN M ι) (w.alloc (.cells vs.toArray T)) ι (.sl l) (.slice (some ⟨w.heap.size,0,none⟩) l.length l.length):=by
 refine .sl _ l _ 0 _ sz (fun j i=>(vs[j*sz+i]?).getD (.bool true)) m (by simp) (fun a=>by have:=lW h a;omega) (fun j i=>?_) (fun j e c i x d=>?_) (fun j e c i x d=>?_) (by omega)
 ·cases e:vs[j*sz+i]? with
  | none=>rfl
  | some v=>grind
 ·obtain⟨v,g,_⟩:=f j e c i x d
  simp_all
 ·obtain⟨v,g,k⟩:=f j e c i x d;simp only[g];exact k.mono (by simp) (fun b _ a=>a) (fun b a _=>u4 _ _ _ a) (fun _ _ h=>h)
end Go.Proofs.YtocgkfoifehcbaaGreat

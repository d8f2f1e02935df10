/- Abstract memory: what a store, a new variable, a new slice does to the state. No program in sight. -/
import Derived.Test.YtocgkfoifehcbaaGreatRdAbs
namespace Go.Proofs.YtocgkfoifehcbaaGreat
set_option linter.all false
open Go.RowKit
abbrev c6:=List AV
def u7:=@Below.heap_alloc
def ame:=@heap_alloc_new
def am2:=@setRow_heap
theorem eG{w:World}{g b}{c}(h:b≠g):(w.setRow g c).heap[b]?=w.heap[b]?:=setRow_other w g b c h
theorem HS.setObj{M:Nat→Prop}{H:aB}{w:World}{ι:Env}{s:AS}(h:HS M H w ι s){id g:Nat}{T:QM id}{vs:Array Value}{q:c6}{f:eg}
  (n:ι id=some (.pointer (some ⟨g,0,none⟩))) (P:w.heap[g]?=some (.cells vs T.1 (0,0))) (O:Cells (NN M ι) w ι q f) :
  HS M H (w.setRow g f.toArray) ι { s with o:=bd id q s.o }:=by
 have m:bu (ι id)=some g:=by rw[n];rfl
 obtain⟨z,R⟩:=h.own id g m;have I:∀b,¬ NN M ι b→(w.setRow g f.toArray).heap[b]?=w.heap[b]?:=fun b l=>eG (fun e=>l (.inr ⟨id,by rw[e];exact m⟩));have d:∀b,b<w.heap.size→¬ NN M ι b→(w.setRow g f.toArray).heap[b]?=w.heap[b]?:=fun b _ l=>I b l;refine⟨?_,h.old,h.use,fun i k y=>?_,h.inj,fun i cs hi=>?_,h.kr,fun i cs hi D=>?_,fun i a hi D=>?_,h.pin⟩
 ·exact h.below.trans ⟨rfl,rfl,rfl,by simp,fun k y N=>eG (fun e=>by subst e;rcases z with z|z;omega;exact N z)⟩
 ·have:=h.own i k y;simp;exact this
 ·simp only[cn]at hi;by_cases e:i=id
  ·subst e;exact h.use i _ n
  ·rw[kc e]at hi;exact h.ko i cs hi
 ·simp only[cn]at hi;by_cases e:i=id
  ·subst e;rw[lp rfl]at hi;injection hi with hi;subst hi
   exact⟨g,T,f.toArray,n,am2 w g vs _ T.1 _ P,by simpa using O.mono (by simp) (fun b _ l=>l) d (fun _ _ h=>h)⟩
  ·rw[kc e]at hi;obtain⟨t,T',F,p,u,A⟩:=h.objs i cs hi D;have C:t≠g:=fun J=>e (h.inj i id g (by rw[p,J];rfl) m);exact⟨t,T',F,p,(eG C).trans u,A.mono (by simp) (fun b _ l=>l) d (fun _ _ h=>h)⟩
 ·obtain⟨v,xs,p,u,A,K,L⟩:=h.arrs i a hi D;refine⟨v,xs,p,fK u (fun t B=>eG ?_),A,K,fun j e Q k c y=>?_⟩
  ·intro e;subst e;have:=h.inj i id t (by rw[p];exact B) m;subst this;rw[p]at n;injection n with n
   subst n;rcases u.2 with⟨G,_⟩|⟨_,_,_,G,_⟩<;>cases G
  ·obtain⟨x,U,S⟩:=L j e Q k c y;exact⟨x,U,S.mono (by simp) (fun b _ l=>l) d (fun _ h=>h) (fun r E=>eG (fun e=>h.nP E n (fun _ e=>by cases e) (by rw[e];rfl))) (fun h=>h)⟩
theorem aV.world{c}{s}{a}{w w'}{ι ι'}(h:aV c s a w ι){s'}(g:HS c.M c.w0 w' ι' s')(i:s'.t=s.t)(m:w.heap.size≤w'.heap.size)
  (e:∀b,b<w.heap.size→NN c.M ι' b→NN c.M ι b) (j:∀b,b<w.heap.size→¬ NN c.M ι b→w'.heap[b]?=w.heap[b]?) (n:∀id y,ι id=some y→ι' id=some y):aV c s' a w' ι' :=
 ⟨g,h.dfr,h.n,fun k v d=>by
  rw[i]at d;obtain⟨x,l,f⟩:=h.tmp k v d;exact⟨x,l,f.mono m e j n⟩⟩
def ext(ι:Env)(d:Nat)(v:Value):Env:=fun i=>if i=d then some v else ι i
theorem cJ ι d v:ext ι d v d=some v:=by simp[ext]
theorem bS ι{d i} v(h:i≠d):ext ι d v i=ι i:=by simp[ext,h]
theorem fd{ι}{d}(h:ι d=none) v:∀id y,ι id=some y→ext ι d v id=some y:=fun id y a=>by
 grind[bS]
theorem gk{M}{ι}{d}{v}{b}(h:NN M (ext ι d v) b):NN M ι b∨bu (some v)=some b:=by
 rcases h with h|⟨id,h⟩
 ·exact .inl (.inl h)
 ·by_cases e:id=d
  ·grind[cJ]
  ·rw[bS _ _ e]at h;exact .inl (.inr ⟨id,h⟩)
theorem HS.free{M}{a}{w}{ι}{s}(h:HS M a w ι s){d}(b:has s.u d=false):ι d=none:=by
 cases e:ι d with
 | none=>rfl
 | some y=>have:=h.use d y e;grind
theorem rF{u:ed}{d i}(h:u.contains i=true):(d::u).contains i=true:=by
 grind
theorem dS{u}{d i}(h:has u i=true):has (d::u) i=true:=by
 grind[has]
theorem js u d:has (d::u) d=true:=ft (by simp)
theorem je.alloc{b}{v w}(h:je b v w)(a:b.w.heap.size≤w.heap.size) o:je b v (w.alloc o) :=
 h.trans (.of ((Below.refl w.heap.size w).alloc (by omega) o) a)
theorem HS.alloc{M:Nat→Prop}{L:aB}{w:World}{ι:Env}{s:AS}(h:HS M L w ι s){d:Nat}(O:has s.u d=false){T:TypeId}(U:tyName d T){cs:c6}{vs:eg}(V:Cells (NN M ι) w ι cs vs):
  HS M L (w.alloc (.cells vs.toArray T)) (ext ι d (.pointer (some ⟨w.heap.size,0,none⟩))) { s with o:=bd d cs s.o,u:=d::s.u }:=by
 have X:=h.free O;have t:L.w.heap.size≤w.heap.size:=h.below.size;have D:∀b,b<w.heap.size→¬ NN M ι b→(w.alloc (.cells vs.toArray T)).heap[b]?=w.heap[b]?:=fun b N _=>u7 _ _ _ N;have H:∀b,b<w.heap.size→NN M (ext ι d (.pointer (some ⟨w.heap.size,0,none⟩))) b→NN M ι b:=fun b N p=>by
  rcases gk p with p|p
  ·exact p
  ·injection p with p;simp only[]at p;omega
 have B:=fd X (.pointer (some ⟨w.heap.size,0,none⟩));refine⟨h.below.alloc t _,h.old,fun i y P=>?_,fun i g l=>?_,fun i C g l f=>?_,fun i n hi=>?_,fun i a hi=>dS (h.kr i a hi),fun i n hi m=>?_,fun i a hi m=>?_,fun i v m=>⟨B i v (h.pin i v m).1,rF (h.pin i v m).2⟩⟩
 ·by_cases e:i=d
  ·subst e;exact js _ _
  ·rw[bS _ _ e]at P;exact dS (h.use i y P)
 ·by_cases e:i=d
  ·subst e;rw[cJ]at l;injection l with l;simp only[]at l;subst l;exact⟨.inl t,by simp⟩
  ·rw[bS _ _ e]at l;exact⟨(h.own i g l).1,by have:=(h.own i g l).2;simp;omega⟩
 ·by_cases e:i=d
  ·by_cases z:C=d
   ·omega
   ·subst e;rw[cJ]at l;rw[bS _ _ z]at f;injection l with l;simp only[]at l
    have:=(h.own C g f).2;omega
  ·by_cases z:C=d
   ·subst z;rw[cJ]at f;rw[bS _ _ e]at l;injection f with f;simp only[]at f
    have:=(h.own i g l).2;omega
   ·rw[bS _ _ e]at l;rw[bS _ _ z]at f;exact h.inj i C g l f
 ·simp only[cn]at hi;by_cases e:i=d
  ·subst e;exact js _ _
  ·rw[kc e]at hi;exact dS (h.ko i n hi)
 ·simp only[cn]at hi;by_cases e:i=d
  ·subst e;rw[lp rfl]at hi;injection hi with hi;subst hi
   exact⟨w.heap.size,⟨T,U⟩,vs.toArray,cJ _ _ _,ame w _,by simpa using V.mono (by simp) H D B⟩
  ·rw[kc e]at hi;rw[bS _ _ e]at m;obtain⟨A,T',K,q,F,G⟩:=h.objs i n hi m;have J:=(h.own i A (by rw[q];rfl)).2;exact⟨A,T',K,(bS _ _ e).trans q,(u7 _ _ _ J).trans F,G.mono (by simp) H D B⟩
 ·have e:i≠d:=by rintro rfl;have:=h.kr i a hi;rw[O]at this;cases this
  rw[bS _ _ e]at m;obtain⟨v,xs,q,F,G,R,S⟩:=h.arrs i a hi m;refine⟨v,xs,(bS _ _ e).trans q,fK F (fun A f=>u7 _ _ _ (h.own i A (by rw[q];exact f)).2),G,R,fun j Q W k c I=>?_⟩;obtain⟨x,Z,Y⟩:=S j Q W k c I;exact⟨x,Z,Y.mono (by simp) H D (fun r E=>B _ _ E) (fun r E=>u7 _ _ _ (h.j6 E)) (fun h=>h)⟩
theorem HS.fresh{M:Nat→Prop}{z:aB}{w:World}{ι:Env}{s:AS}(h:HS M z w ι s)(o:Obj):HS M z (w.alloc o) ι s:=by
 have u:z.w.heap.size≤w.heap.size:=h.below.size;have A:∀b,b<w.heap.size→¬ NN M ι b→(w.alloc o).heap[b]?=w.heap[b]?:=fun b d _=>u7 _ _ _ d;refine⟨h.below.alloc u _,h.old,h.use,fun i g B=>?_,h.inj,h.ko,h.kr,fun i l hi t=>?_,fun i a hi t=>?_,h.pin⟩
 ·exact⟨(h.own i g B).1,by have:=(h.own i g B).2;simp;omega⟩
 ·obtain⟨e,T',y,f,m,n⟩:=h.objs i l hi t;have q:=(h.own i e (by rw[f];rfl)).2;exact⟨e,T',y,f,(u7 _ _ _ q).trans m,n.mono (by simp) (fun b _ d=>d) A (fun _ _ h=>h)⟩
 ·obtain⟨v,xs,f,m,n,E,F⟩:=h.arrs i a hi t;refine⟨v,xs,f,fK m (fun e G=>u7 _ _ _ (h.own i e (by grind)).2),n,E,fun j C H k c p=>?_⟩;obtain⟨x,J,I⟩:=F j C H k c p;exact⟨x,J,I.mono (by simp) (fun b _ d=>d) A (fun _ h=>h) (fun r D=>u7 _ _ _ (h.j6 D)) (fun h=>h)⟩
theorem ml{M}{c}{w}{ι}{s}(h:HS M c w ι s){b}(a:NN M ι b):b<w.heap.size:=by
 rcases a with a|⟨id,a⟩
 ·exact wl (h.old b a).1 h.below.size
 ·exact(h.own id b a).2
theorem Rn{M:Nat→Prop}{n:aB}{w:World}{ι:Env}{s:AS}(h:HS M n w ι s){T:TypeId}{sz:Nat}{l:List c6}{vs:eg}(m:∀e∈l,e.length=sz)(o:∀v∈vs,v.oneCell'=true)
  (f:∀(j:Nat) (e:c6),l[j]?=some e→∀(i:Nat) (x:AV),e[i]?=some x→∃v,vs[j*sz+i]?=some v∧Rel (NN M ι) w bH x v) :
  Rel (NN M ι) (w.alloc (.cells vs.toArray T)) ι (.sl l) (.slice (some ⟨w.heap.size,0,none⟩) l.length l.length):=by
 refine .sl _ l _ 0 _ sz (fun j i=>(vs[j*sz+i]?).getD (.bool true)) m (by simp) (fun a=>by have:=ml h a;omega) (fun j i=>?_) (fun j e c i x d=>?_) (fun j e c i x d=>?_) (by omega)
 ·cases e:vs[j*sz+i]? with
  | none=>rfl
  | some v=>grind
 ·obtain⟨v,g,_⟩:=f j e c i x d
  simp_all
 ·obtain⟨v,g,k⟩:=f j e c i x d;simp only[g];exact k.mono (by simp) (fun b _ a=>a) (fun b a _=>u7 _ _ _ a) (fun _ _ h=>h)
end Go.Proofs.YtocgkfoifehcbaaGreat

/- Abstract memory: what a store, a new variable, a new slice does to the state. No program in sight. -/
import Derived.Test.YtocgkfoifehcbaaGreatRfAbs
namespace Go.Proofs.YtocgkfoifehcbaaGreat
set_option linter.all false
open Go.RowKit
theorem du{w:World}{g b:Nat}{c:Array Value}(h:b≠g):(w.setRow g c).heap[b]?=w.heap[b]?:=setRow_other w g b c h
theorem HS.setObj{M:Nat→Prop}{w0:aE}{w:World}{ι:Env}{s:AS}(h:HS M w0 w ι s){id g:Nat}{T:JQ id}{vs:Array Value}{cs':List AV}{vs':List Value}
  (hι:ι id=some (.pointer (some ⟨g,0,none⟩))) (hg:w.heap[g]?=some (.cells vs T.1 (0,0))) (hc:Cells (NN M ι) w ι cs' vs') :
  HS M w0 (w.setRow g vs'.toArray) ι { s with o:=aZ id cs' s.o }:=by
 have hbg:bm (ι id)=some g:=by rw[hι];rfl
 obtain⟨ho,hlt⟩:=h.own id g hbg;have bI:∀b,¬ NN M ι b→(w.setRow g vs'.toArray).heap[b]?=w.heap[b]?:=fun b hb=>du (fun e=>hb (.inr ⟨id,by rw[e];exact hbg⟩));have keep':∀b,b<w.heap.size→¬ NN M ι b→(w.setRow g vs'.toArray).heap[b]?=w.heap[b]?:=fun b _ hb=>bI b hb;refine⟨?_,h.old,h.use,fun i k hk=>?_,h.inj,fun i cs hi=>?_,h.kr,fun i cs hi hp=>?_,fun i a hi hp=>?_,h.pin⟩
 ·exact h.below.trans ⟨rfl,rfl,rfl,by simp,fun k hk hG=>du (fun e=>by subst e;rcases ho with ho|ho;omega;exact hG ho)⟩
 ·have:=h.own i k hk;simp;exact this
 ·simp only[ca]at hi;by_cases e:i=id
  ·subst e;exact h.use i _ hι
  ·rw[if_neg e]at hi;exact h.ko i cs hi
 ·simp only[ca]at hi;by_cases e:i=id
  ·subst e;rw[if_pos rfl]at hi;injection hi with hi;subst hi
   exact⟨g,T,vs'.toArray,hι,setRow_heap w g vs _ T.1 _ hg,by simpa using hc.mono (by simp) (fun b _ hb=>hb) keep' (fun _ _ h=>h)⟩
  ·rw[if_neg e]at hi;obtain⟨g',T',vs1,h1,h2,h3⟩:=h.objs i cs hi hp;have hne:g'≠g:=fun e'=>e (h.inj i id g (by rw[h1,e'];rfl) hbg);exact⟨g',T',vs1,h1,(du hne).trans h2,h3.mono (by simp) (fun b _ hb=>hb) keep' (fun _ _ h=>h)⟩
 ·obtain⟨v,xs,h1,h2,h3,h4,h5⟩:=h.arrs i a hi hp;refine⟨v,xs,h1,eo h2 (fun g' hg'=>du ?_),h3,h4,fun j e hj k c hk=>?_⟩
  ·intro e;subst e;have:=h.inj i id g' (by rw[h1];exact hg') hbg;subst this;rw[h1]at hι;injection hι with hι
   subst hι;rcases h2.2 with⟨hv,_⟩|⟨_,_,_,hv,_⟩<;>cases hv
  ·obtain⟨x,hx,hr⟩:=h5 j e hj k c hk;exact⟨x,hx,hr.mono (by simp) (fun b _ hb=>hb) keep' (fun _ h=>h) (fun r hr'=>du (fun e=>h.li hr' hι (fun _ e=>by cases e) (by rw[e];rfl))) (fun h=>h)⟩
theorem aN.world{cx:Cx}{s:AS}{a:Act}{w w':World}{ι ι':Env}(h:aN cx s a w ι){s':AS}(hs:HS cx.M cx.w0 w' ι' s')(ht:s'.t=s.t)(hz:w.heap.size≤w'.heap.size)
  (hN:∀b,b<w.heap.size→NN cx.M ι' b→NN cx.M ι b) (hw:∀b,b<w.heap.size→¬ NN cx.M ι b→w'.heap[b]?=w.heap[b]?) (hι:∀id y,ι id=some y→ι' id=some y):aN cx s' a w' ι' :=
 ⟨hs,h.dfr,h.n,fun k v hk=>by
  rw[ht]at hk;obtain⟨x,hx,hr⟩:=h.tmp k v hk;exact⟨x,hx,hr.mono hz hN hw hι⟩⟩
def ext(ι:Env)(d:Nat)(v:Value):Env:=fun i=>if i=d then some v else ι i
theorem cr(ι:Env)(d:Nat)(v:Value):ext ι d v d=some v:=by simp[ext]
theorem bq(ι:Env){d i:Nat}(v:Value)(h:i≠d):ext ι d v i=ι i:=by simp[ext,h]
theorem dQ{ι:Env}{d:Nat}(h:ι d=none)(v:Value):∀id y,ι id=some y→ext ι d v id=some y:=fun id y hy=>by
 rw[bq]
 ·exact hy
 ·rintro rfl;rw[h]at hy;cases hy
theorem er{M:Nat→Prop}{ι:Env}{d:Nat}{v:Value}{b:Nat}(h:NN M (ext ι d v) b):NN M ι b∨bm (some v)=some b:=by
 rcases h with h|⟨id,h⟩
 ·exact .inl (.inl h)
 ·by_cases e:id=d
  ·subst e;rw[cr]at h;exact .inr h
  ·rw[bq _ _ e]at h;exact .inl (.inr ⟨id,h⟩)
theorem HS.free{M:Nat→Prop}{w0:aE}{w:World}{ι:Env}{s:AS}(h:HS M w0 w ι s){d:Nat}(hd:has s.u d=false):ι d=none:=by
 cases e:ι d with
 | none=>rfl
 | some y=>have:=h.use d y e;rw[hd]at this;cases this
theorem mI{u:List Nat}{d i:Nat}(h:u.contains i=true):(d::u).contains i=true:=by
 simp only[List.contains_cons,h,Bool.or_true]
theorem eA{u:List Nat}{d i:Nat}(h:has u i=true):has (d::u) i=true:=by
 rcases IP h with h|h
 ·exact eB (mI h)
 ·unfold has;rw[Nat.ble_eq_true_of_le h,Bool.or_true]
theorem g8(u:List Nat)(d:Nat):has (d::u) d=true:=eB (by simp)
theorem fM.alloc{b:aE}{v w:World}(h:fM b v w)(hs:b.w.heap.size≤w.heap.size)(o:Obj):fM b v (w.alloc o) :=
 h.trans (.of ((Below.refl w.heap.size w).alloc (Nat.le_refl _) o) hs)
theorem HS.alloc{M:Nat→Prop}{w0:aE}{w:World}{ι:Env}{s:AS}(h:HS M w0 w ι s){d:Nat}(hd:has s.u d=false){T:TypeId}(hT:tyName d T){cs:List AV}{vs:List Value}(hc:Cells (NN M ι) w ι cs vs):
  HS M w0 (w.alloc (.cells vs.toArray T)) (ext ι d (.pointer (some ⟨w.heap.size,0,none⟩))) { s with o:=aZ d cs s.o,u:=d::s.u }:=by
 have hn:=h.free hd;have hw0:w0.w.heap.size≤w.heap.size:=h.below.size;have bI:∀b,b<w.heap.size→¬ NN M ι b→(w.alloc (.cells vs.toArray T)).heap[b]?=w.heap[b]?:=fun b hb _=>Below.heap_alloc _ _ _ hb;have hN:∀b,b<w.heap.size→NN M (ext ι d (.pointer (some ⟨w.heap.size,0,none⟩))) b→NN M ι b:=fun b hb hh=>by
  rcases er hh with hh|hh
  ·exact hh
  ·injection hh with hh;simp only[]at hh;omega
 have hk:=dQ hn (.pointer (some ⟨w.heap.size,0,none⟩));refine⟨h.below.alloc hw0 _,h.old,fun i y hy=>?_,fun i g hg=>?_,fun i i' g hg hg'=>?_,fun i cs1 hi=>?_,fun i a hi=>eA (h.kr i a hi),fun i cs1 hi hp=>?_,fun i a hi hp=>?_,fun i v hp=>⟨hk i v (h.pin i v hp).1,mI (h.pin i v hp).2⟩⟩
 ·by_cases e:i=d
  ·subst e;exact g8 _ _
  ·rw[bq _ _ e]at hy;exact eA (h.use i y hy)
 ·by_cases e:i=d
  ·subst e;rw[cr]at hg;injection hg with hg;simp only[]at hg;subst hg;exact⟨.inl hw0,by simp⟩
  ·rw[bq _ _ e]at hg;exact⟨(h.own i g hg).1,by have:=(h.own i g hg).2;simp;omega⟩
 ·by_cases e:i=d
  ·by_cases e':i'=d
   ·omega
   ·subst e;rw[cr]at hg;rw[bq _ _ e']at hg';injection hg with hg;simp only[]at hg
    have:=(h.own i' g hg').2;omega
  ·by_cases e':i'=d
   ·subst e';rw[cr]at hg';rw[bq _ _ e]at hg;injection hg' with hg';simp only[]at hg'
    have:=(h.own i g hg).2;omega
   ·rw[bq _ _ e]at hg;rw[bq _ _ e']at hg';exact h.inj i i' g hg hg'
 ·simp only[ca]at hi;by_cases e:i=d
  ·subst e;exact g8 _ _
  ·rw[if_neg e]at hi;exact eA (h.ko i cs1 hi)
 ·simp only[ca]at hi;by_cases e:i=d
  ·subst e;rw[if_pos rfl]at hi;injection hi with hi;subst hi
   exact⟨w.heap.size,⟨T,hT⟩,vs.toArray,cr _ _ _,heap_alloc_new w _,by simpa using hc.mono (by simp) hN bI hk⟩
  ·rw[if_neg e]at hi;rw[bq _ _ e]at hp;obtain⟨g',T',vs1,h1,h2,h3⟩:=h.objs i cs1 hi hp;have hlt:=(h.own i g' (by rw[h1];rfl)).2;exact⟨g',T',vs1,(bq _ _ e).trans h1,(Below.heap_alloc _ _ _ hlt).trans h2,h3.mono (by simp) hN bI hk⟩
 ·have e:i≠d:=by rintro rfl;have:=h.kr i a hi;rw[hd]at this;cases this
  rw[bq _ _ e]at hp;obtain⟨v,xs,h1,h2,h3,h4,h5⟩:=h.arrs i a hi hp;refine⟨v,xs,(bq _ _ e).trans h1,eo h2 (fun g' hg'=>Below.heap_alloc _ _ _ (h.own i g' (by rw[h1];exact hg')).2),h3,h4,fun j el hj k c hk'=>?_⟩;obtain⟨x,hx,hr⟩:=h5 j el hj k c hk';exact⟨x,hx,hr.mono (by simp) hN bI (fun r h'=>hk _ _ h') (fun r h'=>Below.heap_alloc _ _ _ (h.iJ h')) (fun h=>h)⟩
theorem HS.fresh{M:Nat→Prop}{w0:aE}{w:World}{ι:Env}{s:AS}(h:HS M w0 w ι s)(o:Obj):HS M w0 (w.alloc o) ι s:=by
 have hw0:w0.w.heap.size≤w.heap.size:=h.below.size;have bI:∀b,b<w.heap.size→¬ NN M ι b→(w.alloc o).heap[b]?=w.heap[b]?:=fun b hb _=>Below.heap_alloc _ _ _ hb;refine⟨h.below.alloc hw0 _,h.old,h.use,fun i g hg=>?_,h.inj,h.ko,h.kr,fun i cs1 hi hp=>?_,fun i a hi hp=>?_,h.pin⟩
 ·exact⟨(h.own i g hg).1,by have:=(h.own i g hg).2;simp;omega⟩
 ·obtain⟨g',T',vs1,h1,h2,h3⟩:=h.objs i cs1 hi hp;have hlt:=(h.own i g' (by rw[h1];rfl)).2;exact⟨g',T',vs1,h1,(Below.heap_alloc _ _ _ hlt).trans h2,h3.mono (by simp) (fun b _ hb=>hb) bI (fun _ _ h=>h)⟩
 ·obtain⟨v,xs,h1,h2,h3,h4,h5⟩:=h.arrs i a hi hp;refine⟨v,xs,h1,eo h2 (fun g' hg'=>Below.heap_alloc _ _ _ (h.own i g' (by rw[h1];exact hg')).2),h3,h4,fun j el hj k c hk'=>?_⟩;obtain⟨x,hx,hr⟩:=h5 j el hj k c hk';exact⟨x,hx,hr.mono (by simp) (fun b _ hb=>hb) bI (fun _ h=>h) (fun r h'=>Below.heap_alloc _ _ _ (h.iJ h')) (fun h=>h)⟩
theorem jH{M:Nat→Prop}{w0:aE}{w:World}{ι:Env}{s:AS}(h:HS M w0 w ι s){b:Nat}(hb:NN M ι b):b<w.heap.size:=by
 rcases hb with hb|⟨id,hb⟩
 ·exact Nat.lt_of_lt_of_le (h.old b hb).1 h.below.size
 ·exact(h.own id b hb).2
theorem FB{M:Nat→Prop}{w0:aE}{w:World}{ι:Env}{s:AS}(h:HS M w0 w ι s){T:TypeId}{sz:Nat}{l:List (List AV)}{vs:List Value}(hz:∀e∈l,e.length=sz)(h1:∀v∈vs,v.oneCell'=true)
  (hc:∀(j:Nat) (e:List AV),l[j]?=some e→∀(i:Nat) (x:AV),e[i]?=some x→∃v,vs[j*sz+i]?=some v∧Rel (NN M ι) w bn x v) :
  Rel (NN M ι) (w.alloc (.cells vs.toArray T)) ι (.sl l) (.slice (some ⟨w.heap.size,0,none⟩) l.length l.length):=by
 refine .sl _ l _ 0 _ sz (fun j i=>(vs[j*sz+i]?).getD (.bool true)) hz (by simp) (fun hb=>by have:=jH h hb;omega) (fun j i=>?_) (fun j e he i x hx=>?_) (fun j e he i x hx=>?_) (Nat.le_refl _)
 ·cases e:vs[j*sz+i]? with
  | none=>rfl
  | some v=>exact h1 v (List.mem_of_getElem? e)
 ·obtain⟨v,hv,_⟩:=hc j e he i x hx;rw[cell_of_row _ _ _ _ T (0,0) (heap_alloc_new w _)];simp[hv]
 ·obtain⟨v,hv,hr⟩:=hc j e he i x hx;simp only[hv,Option.getD_some];exact hr.mono (by simp) (fun b _ hb=>hb) (fun b hb _=>Below.heap_alloc _ _ _ hb) (fun _ _ h=>h)
end Go.Proofs.YtocgkfoifehcbaaGreat

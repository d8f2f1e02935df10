/- A slice that a callee has made comes into the caller's own. No program in sight. -/
import Derived.Test.YtocgkfoifehcbaaGreatRfActl
import Derived.Test.YtocgkfoifehcbaaGreatRfAfrm
namespace Go.Proofs.YtocgkfoifehcbaaGreat
set_option linter.all false
open Go.RowKit
mutual
def AV.eh(id nid:Nat):AV→AV
 | .ref i=>if i=id then .ref nid else .any
 | .ptr _ _=>.any
 | .pp _ _ _=>.any
 | .sit _ _ _ _=>.any
 | .adr g off=>.adr g off
 | .eptr _ _ _ _=>.any
 | .sref _ _ _ _=>.any
 | .agg cs=>.agg (jg id nid cs)
 | .tup cs=>.tup (jg id nid cs)
 | .int k n=>.int k n
 | .bool b=>.bool b
 | .str s=>.str s
 | .nils=>.nils
 | .sl l=>.sl l
 | .nilm=>.nilm
 | .mref _ _=>.any
 | .omp m=>.omp m
 | .osl e sz l=>.osl e sz l
 | .vv x=>.vv x
 | .lk _ _=>.any
 | .fn f c=>.fn f c
 | .fno _ _=>.any
 | .nilf=>.nilf
 | .nilp=>.nilp
 | .cptr cs=>.cptr cs
 | .any=>.any
def jg(id nid:Nat):List AV→List AV
 | []=>[]
 | c::r=>c.eh id nid::jg id nid r
end
theorem Cs{id nid:Nat}:∀{l:List AV} {i:Nat} {x:AV},(jg id nid l)[i]?=some x→∃y,l[i]?=some y∧x=y.eh id nid
 | [],i,x,h=>by simp[jg]at h
 | c::r,0,x,h=>by simp[jg]at h;exact⟨c,rfl,h.symm⟩
 | c::r,i+1,x,h=>by simp only[jg,List.getElem?_cons_succ]at h⊢;exact Cs h
theorem yO{id nid:Nat}:∀(l:List AV),(jg id nid l).length=l.length
 | []=>rfl
 | c::r=>by simp[jg,yO r]
theorem Rel.eh{N N':Nat→Prop}{w:World}{ι:Env}{v:AV}{x:Value}(h:Rel N w ι v x){id nid:Nat}{ι':Env}(hN:∀b,N' b→N b)(hι:∀y,ι id=some y→ι' nid=some y):Rel N' w ι' (v.eh id nid) x:=by
 have hm:∀{e:Env} {v:AV} {x:Value},Rel N w e v x→Rel N' w e v x:=fun h=>h.mono (Nat.le_refl _) (fun b _ hb=>hN b hb) (fun _ _ _=>rfl) (fun _ _ h=>h)
 induction h with
 | int ι k n=>exact .int _ _ _
 | bool ι b=>exact .bool _ _
 | str ι s=>exact .str _ _
 | nils ι=>exact .nils _
 | nilm ι=>simp only[AV.eh];exact .nilm _
 | mref ι i q r v h h2=>simp only[AV.eh];exact .any _ _ rfl
 | sl0 ι A c=>exact .sl0 _ _ _
 | sl ι l b o c sz val hz hb hn h1 hc hr hcap ih=>simp only[AV.eh];exact .sl _ l b o c sz val hz hb (fun h=>hn (hN b h)) h1 hc (fun j e he i x hx=>hm (hr j e he i x hx)) hcap
 | fn ι f aP ys hl hr ih=>exact .fn _ f aP ys hl (fun i c y h1 h2=>hm (hr i c y h1 h2))
 | fno ι f aP ys hl hr ih=>exact .any _ _ rfl
 | nilf ι=>exact .nilf _
 | nilp ι=>exact .nilp _
 | any ι x h=>exact .any _ _ h
 | ptr ι id' off g h=>exact .any _ _ rfl
 | pp ι id' g off h=>exact .any _ _ rfl
 | sit _ _ _ _ _ _ _ _ _=>exact .any _ _ rfl
 | adr ι g off=>exact .adr _ _ _
 | vv ι x h=>exact .vv _ _ h
 | lk ι i v x h h1=>exact .any _ _ h1
 | eptr ι id' sz j off g n c h=>exact .any _ _ rfl
 | sref ι id' sz off m n c c' A B h hB=>exact .any _ _ rfl
 | cptr ι cs b o val hb hn h1 hc hr ih=>simp only[AV.eh];exact .cptr _ cs b o val hb (fun h=>hn (hN b h)) h1 hc (fun i x hx=>hm (hr i x hx))
 | ref ι id' A n c h =>
  simp only[AV.eh];split
  ·rename_i e;subst e;exact .ref _ _ _ _ _ (hι _ h)
  ·exact .any _ _ rfl
 | agg ι cs vs hl h1 hr ih =>
  refine .agg _ _ _ (by rw[yO];exact hl) h1 (fun i x v hx hv=>?_);obtain⟨y,hy,rfl⟩:=Cs hx;exact ih i y v hy hv hι
 | tup ι cs vs hl hr ih =>
  refine .tup _ _ _ (by rw[yO];exact hl) (fun i x v hx hv=>?_);obtain⟨y,hy,rfl⟩:=Cs hx;exact ih i y v hy hv hι
theorem HS.import{M:Nat→Prop}{w0:aE}{w w':World}{ι ι1:Env}{s s1:AS}(h:HS M w0 w ι s)(h1:HS (NN M ι) (jy w) w' ι1 s1){id nid:Nat}{ar:br}{v:Value}(htg:id<TG)(hv:ι1 id=some v)(ha:look id s1.r=some ar)(hn:has s.u nid=false):
  HS M w0 w' (ext ι nid v) { s with r:=aZ nid ar s.r,u:=nid::s.u }∧(∀b,NN M (ext ι nid v) b→NN (NN M ι) ι1 b):=by
 have hl:=h.ji h1.below.plain;have hno:=h.free hn;have hblk:∀g,bm (some v)=some g→w.heap.size≤g∧g<w'.heap.size:=fun g hg=>⟨((h1.own id g (by rw[hv];exact hg)).1).elim (fun h=>h) (fun h=>h.elim),(h1.own id g (by rw[hv];exact hg)).2⟩;have hNN:∀b,NN M (ext ι nid v) b→NN (NN M ι) ι1 b:=fun b hb=>by
  rcases er hb with hb|hb
  ·exact .inl hb
  ·exact .inr ⟨id,by rw[hv];exact hb⟩
 have hNN2:∀b,b<w.heap.size→NN M (ext ι nid v) b→NN M ι b:=fun b hlt hb=>by
  rcases er hb with hb|hb
  ·exact hb
  ·have:=(hblk b hb).1;omega
 have bI:∀b,b<w.heap.size→¬ NN M ι b→w'.heap[b]?=w.heap[b]?:=fun b hlt _=>h1.below.plain.block b hlt;have hk:=dQ hno v;refine⟨⟨hl.below,h.old,fun i y hy=>?_,fun i g hg=>?_,fun i i' g hg hg'=>?_,fun i cs hi=>eA (h.ko i cs hi),fun i a hi=>?_,fun i cs hi hp=>?_,fun i a hi hp=>?_,fun i y hp=>⟨hk i y (h.pin i y hp).1,mI (h.pin i y hp).2⟩⟩,hNN⟩
 ·by_cases e:i=nid
  ·subst e;exact g8 _ _
  ·rw[bq _ _ e]at hy;exact eA (h.use i y hy)
 ·by_cases e:i=nid
  ·subst e;rw[cr]at hg;exact⟨.inl (Nat.le_trans h.below.size (hblk g hg).1),(hblk g hg).2⟩
  ·rw[bq _ _ e]at hg;exact⟨(h.own i g hg).1,by have:=(h.own i g hg).2;have:=h1.below.plain.size;omega⟩
 ·by_cases e:i=nid
  ·by_cases e':i'=nid
   ·omega
   ·subst e;rw[cr]at hg;rw[bq _ _ e']at hg';have:=(hblk g hg).1;have:=(h.own i' g hg').2;omega
  ·by_cases e':i'=nid
   ·subst e';rw[cr]at hg';rw[bq _ _ e]at hg;have:=(hblk g hg').1;have:=(h.own i g hg).2;omega
   ·rw[bq _ _ e]at hg;rw[bq _ _ e']at hg';exact h.inj i i' g hg hg'
 ·simp only[ca]at hi;by_cases e:i=nid
  ·subst e;exact g8 _ _
  ·rw[if_neg e]at hi;exact eA (h.kr i a hi)
 ·have e:i≠nid:=by rintro rfl;have:=h.ko i cs hi;rw[hn]at this;cases this
  rw[bq _ _ e]at hp;obtain⟨g,T,vs,e1,e2,e3⟩:=h.objs i cs hi hp;exact⟨g,T,vs,(bq _ _ e).trans e1,(h1.below.plain.block g (h.own i g (by rw[e1];rfl)).2).trans e2,e3.mono h1.below.plain.size hNN2 bI hk⟩
 ·simp only[ca]at hi;by_cases e:i=nid
  ·subst e;rw[if_pos rfl]at hi;injection hi with hi;subst hi
   obtain⟨v',xs,e1,e2,e3,e4,e5⟩:=h1.arrs id ar ha (by rw[hv];rfl);rw[hv]at e1;injection e1 with e1;subst e1
   refine⟨v,xs,cr _ _ _,⟨e2.1,?_⟩,e3,e4,fun j el hj k c hk'=>?_⟩
   ·rcases e2.2 with hz|⟨g,cap,cur,r1,r2,r⟩
    ·exact .inl hz
    ·exact .inr ⟨g,cap,cur,r1,Nat.zero_le _,r⟩
   ·obtain⟨x,hx,hr⟩:=e5 j el hj k c hk';exact⟨x,hx,.inl ((hr.flat (by omega)).mono (Nat.le_refl _) (fun b _ hb=>hNN b hb) (fun _ _ _=>rfl) (fun _ _ h=>h))⟩
  ·rw[if_neg e]at hi;rw[bq _ _ e]at hp;obtain⟨v1,xs1,e1,e2,e3,e4,e5⟩:=h.arrs i a hi hp;refine⟨v1,xs1,(bq _ _ e).trans e1,eo e2 (fun g hg'=>h1.below.plain.block g (h.own i g (by rw[e1];exact hg')).2),e3,e4,fun j el hj k c hk'=>?_⟩;obtain⟨x,hx,hr⟩:=e5 j el hj k c hk';exact⟨x,hx,hr.mono h1.below.plain.size hNN2 bI (fun r h'=>hk _ _ h') (fun r h'=>h1.below.plain.block r (h.iJ h')) (fun h=>h)⟩
theorem HS.OM{M:Nat→Prop}{w0:aE}{w w':World}{ι ι1:Env}{s s1:AS}(h:HS M w0 w ι s)(h1:HS (NN M ι) (jy w) w' ι1 s1){id nid:Nat}{ar:br}{v:Value}(htg:id<TG)(hv:ι1 id=some v)(ha:look id s1.r=some ar)(hno:ι nid=none)(hu:has s.u nid=true)(hso:look nid s.o=none)(hsr:look nid s.r=some ar):
  HS M w0 w' (ext ι nid v) s∧(∀b,NN M (ext ι nid v) b→NN (NN M ι) ι1 b):=by
 have hl:=h.ji h1.below.plain;have hblk:∀g,bm (some v)=some g→w.heap.size≤g∧g<w'.heap.size:=fun g hg=>⟨((h1.own id g (by rw[hv];exact hg)).1).elim (fun h=>h) (fun h=>h.elim),(h1.own id g (by rw[hv];exact hg)).2⟩;have hNN:∀b,NN M (ext ι nid v) b→NN (NN M ι) ι1 b:=fun b hb=>by
  rcases er hb with hb|hb
  ·exact .inl hb
  ·exact .inr ⟨id,by rw[hv];exact hb⟩
 have hNN2:∀b,b<w.heap.size→NN M (ext ι nid v) b→NN M ι b:=fun b hlt hb=>by
  rcases er hb with hb|hb
  ·exact hb
  ·have:=(hblk b hb).1;omega
 have bI:∀b,b<w.heap.size→¬ NN M ι b→w'.heap[b]?=w.heap[b]?:=fun b hlt _=>h1.below.plain.block b hlt;have hk:=dQ hno v;refine⟨⟨hl.below,h.old,fun i y hy=>?_,fun i g hg=>?_,fun i i' g hg hg'=>?_,h.ko,h.kr,fun i cs hi hp=>?_,fun i a hi hp=>?_,fun i y hp=>⟨hk i y (h.pin i y hp).1,(h.pin i y hp).2⟩⟩,hNN⟩
 ·by_cases e:i=nid
  ·subst e;exact hu
  ·rw[bq _ _ e]at hy;exact h.use i y hy
 ·by_cases e:i=nid
  ·subst e;rw[cr]at hg;exact⟨.inl (Nat.le_trans h.below.size (hblk g hg).1),(hblk g hg).2⟩
  ·rw[bq _ _ e]at hg;exact⟨(h.own i g hg).1,by have:=(h.own i g hg).2;have:=h1.below.plain.size;omega⟩
 ·by_cases e:i=nid
  ·by_cases e':i'=nid
   ·omega
   ·subst e;rw[cr]at hg;rw[bq _ _ e']at hg';have:=(hblk g hg).1;have:=(h.own i' g hg').2;omega
  ·by_cases e':i'=nid
   ·subst e';rw[cr]at hg';rw[bq _ _ e]at hg;have:=(hblk g hg').1;have:=(h.own i g hg).2;omega
   ·rw[bq _ _ e]at hg;rw[bq _ _ e']at hg';exact h.inj i i' g hg hg'
 ·have e:i≠nid:=by rintro rfl;rw[hso]at hi;cases hi
  rw[bq _ _ e]at hp;obtain⟨g,T,vs,e1,e2,e3⟩:=h.objs i cs hi hp;exact⟨g,T,vs,(bq _ _ e).trans e1,(h1.below.plain.block g (h.own i g (by rw[e1];rfl)).2).trans e2,e3.mono h1.below.plain.size hNN2 bI hk⟩
 ·by_cases e:i=nid
  ·subst e;rw[hsr]at hi;injection hi with hi;subst hi
   obtain⟨v',xs,e1,e2,e3,e4,e5⟩:=h1.arrs id ar ha (by rw[hv];rfl);rw[hv]at e1;injection e1 with e1;subst e1
   refine⟨v,xs,cr _ _ _,⟨e2.1,?_⟩,e3,e4,fun j el hj k c hk'=>?_⟩
   ·rcases e2.2 with hz|⟨g,cap,cur,r1,r2,r⟩
    ·exact .inl hz
    ·exact .inr ⟨g,cap,cur,r1,Nat.zero_le _,r⟩
   ·obtain⟨x,hx,hr⟩:=e5 j el hj k c hk';exact⟨x,hx,.inl ((hr.flat (by omega)).mono (Nat.le_refl _) (fun b _ hb=>hNN b hb) (fun _ _ _=>rfl) (fun _ _ h=>h))⟩
  ·rw[bq _ _ e]at hp;obtain⟨v1,xs1,e1,e2,e3,e4,e5⟩:=h.arrs i a hi hp;refine⟨v1,xs1,(bq _ _ e).trans e1,eo e2 (fun g hg'=>h1.below.plain.block g (h.own i g (by rw[e1];exact hg')).2),e3,e4,fun j el hj k c hk'=>?_⟩;obtain⟨x,hx,hr⟩:=e5 j el hj k c hk';exact⟨x,hx,hr.mono h1.below.plain.size hNN2 bI (fun r h'=>hk _ _ h') (fun r h'=>h1.below.plain.block r (h.iJ h')) (fun h=>h)⟩
end Go.Proofs.YtocgkfoifehcbaaGreat

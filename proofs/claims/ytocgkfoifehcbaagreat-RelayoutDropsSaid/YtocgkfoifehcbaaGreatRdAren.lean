/- A slice that a callee has made comes into the caller's own. No program in sight. -/
import Derived.Test.YtocgkfoifehcbaaGreatRdActl
import Derived.Test.YtocgkfoifehcbaaGreatRdAfrm
namespace Go.Proofs.YtocgkfoifehcbaaGreat
set_option linter.all false
open Go.RowKit
def alE:=@List.getElem?_cons_succ
mutual
def AV.f9(id a:Nat):AV→AV
 | .ref i=>if i=id then .ref a else .any
 | .ptr _ _=>.any
 | .pp _ _ _=>.any
 | .sit _ _ _ _=>.any
 | .adr g off=>.adr g off
 | .eptr _ _ _ _=>.any
 | .sref _ _ _ _=>.any
 | .agg cs=>.agg (oH id a cs)
 | .tup cs=>.tup (oH id a cs)
 | .int k n=>.int k n
 | .bool b=>.bool b
 | .str s=>.str s
 | .nils=>.nils
 | .sl l=>.sl l
 | .nilm=>.nilm
 | .mref _ _=>.any
 | .omp m=>.omp m
 | .osl e sz l=>.osl e sz l
 | .vv x=>.vv x
 | .lk _ _=>.any
 | .fn f c=>.fn f c
 | .fno _ _=>.any
 | .nilf=>.nilf
 | .nilp=>.nilp
 | .cptr cs=>.cptr cs
 | .any=>.any
def oH(id a:Nat):c6→c6
 | []=>[]
 | c::r=>c.f9 id a::oH id a r
end
theorem KE{id a}:∀{l} {i:Nat} {x},(oH id a l)[i]?=some x→∃y,l[i]?=some y∧x=y.f9 id a
 | [],i,x,h=>by grind[oH]
 | c::r,0,x,h=>by grind[oH]
 | c::r,i+1,x,h=>by simp only[alE]at h⊢;exact KE h
theorem G7{id a}:∀l,(oH id a l).length=l.length
 | []=>rfl
 | c::r=>by simp[oH,G7 r]
theorem Rel.f9{N N':Nat→Prop}{w:World}{ι:Env}{v:AV}{x:Value}(h:Rel N w ι v x){id E:Nat}{ι':Env}(G:∀b,N' b→N b)(Q:∀y,ι id=some y→ι' E=some y):Rel N' w ι' (v.f9 id E) x:=by
 have I:∀{e:Env} {v:AV} {x:Value},Rel N w e v x→Rel N' w e v x:=fun h=>h.mono (la _) (fun b _ u=>G b u) (fun _ _ _=>rfl) (fun _ _ h=>h)
 induction h with
 | int ι k n=>exact .int _ _ _
 | bool ι b=>exact .bool _ _
 | str ι s=>exact .str _ _
 | nils ι=>exact .nils _
 | nilm ι=>simp only[AV.f9];exact .nilm _
 | mref ι i q r v h K=>simp only[AV.f9];exact .any _ _ rfl
 | sl0 ι A c=>exact .sl0 _ _ _
 | sl ι l b o c sz t P u J a H p z D=>simp only[AV.f9];exact .sl _ l b o c sz t P u (fun h=>J (G b h)) a H (fun j e M i x C=>I (p j e M i x C)) z
 | fn ι f aR L F p D=>exact .fn _ f aR L F (fun i c y a K=>I (p i c y a K))
 | fno ι f aR L F p D=>exact .any _ _ rfl
 | nilf ι=>exact .nilf _
 | nilp ι=>exact .nilp _
 | any ι x h=>exact .any _ _ h
 | ptr ι d off g h=>exact .any _ _ rfl
 | pp ι d g off h=>exact .any _ _ rfl
 | sit _ _ _ _ _ _ _ _ _=>exact .any _ _ rfl
 | adr ι g off=>exact .adr _ _ _
 | vv ι x h=>exact .vv _ _ h
 | lk ι i v x h a=>exact .any _ _ a
 | eptr ι d sz j off g n c h=>exact .any _ _ rfl
 | sref ι d sz off m n c R A B h S=>exact .any _ _ rfl
 | cptr ι cs b o t u J a H p D=>simp only[AV.f9];exact .cptr _ cs b o t u (fun h=>J (G b h)) a H (fun i x C=>I (p i x C))
 | ref ι d A n c h =>
  simp only[AV.f9];split
  ·rename_i e;subst e;exact .ref _ _ _ _ _ (Q _ h)
  ·exact .any _ _ rfl
 | agg ι cs vs F a p D =>
  refine .agg _ _ _ (by grind[G7]) a (fun i x v C O=>?_)
  grind[KE]
 | tup ι cs vs F p D =>
  refine .tup _ _ _ (by grind[G7]) (fun i x v C O=>?_)
  grind[KE]
theorem HS.import{M:Nat→Prop}{w0:aB}{w w':World}{ι H:Env}{s Z:AS}(h:HS M w0 w ι s)(o:HS (NN M ι) (nj w) w' H Z){id d:Nat}{ar:cj}{v:Value}(a0:id<TG)(E:H id=some v)(ha:look id Z.r=some ar)(X:has s.u d=false):
  HS M w0 w' (ext ι d v) { s with r:=bd d ar s.r,u:=d::s.u }∧(∀b,NN M (ext ι d v) b→NN (NN M ι) H b):=by
 have hl:=h.mL o.below.plain;have R:=h.free X;have f:∀g,bu (some v)=some g→w.heap.size≤g∧g<w'.heap.size:=fun g m=>⟨((o.own id g (by rw[E];exact m)).1).elim (fun h=>h) (fun h=>h.elim),(o.own id g (by rw[E];exact m)).2⟩;have C:∀b,NN M (ext ι d v) b→NN (NN M ι) H b:=fun b n=>by
  rcases gk n with n|n
  ·exact .inl n
  ·exact .inr ⟨id,by rw[E];exact n⟩
 have q:∀b,b<w.heap.size→NN M (ext ι d v) b→NN M ι b:=fun b D n=>by
  rcases gk n with n|n
  ·exact n
  ·have:=(f b n).1;omega
 have W:∀b,b<w.heap.size→¬ NN M ι b→w'.heap[b]?=w.heap[b]?:=fun b D _=>o.below.plain.block b D;have Q:=fd R v;refine⟨⟨hl.below,h.old,fun i y Y=>?_,fun i g m=>?_,fun i G g m l=>?_,fun i cs hi=>dS (h.ko i cs hi),fun i a hi=>?_,fun i cs hi t=>?_,fun i a hi t=>?_,fun i y t=>⟨Q i y (h.pin i y t).1,rF (h.pin i y t).2⟩⟩,C⟩
 ·by_cases e:i=d
  ·subst e;exact js _ _
  ·rw[bS _ _ e]at Y;exact dS (h.use i y Y)
 ·by_cases e:i=d
  ·subst e;rw[cJ]at m;exact⟨.inl (RX h.below.size (f g m).1),(f g m).2⟩
  ·rw[bS _ _ e]at m;exact⟨(h.own i g m).1,by have:=(h.own i g m).2;have:=o.below.plain.size;omega⟩
 ·by_cases e:i=d
  ·by_cases F:G=d
   ·omega
   ·subst e;rw[cJ]at m;rw[bS _ _ F]at l;have:=(f g m).1;have:=(h.own G g l).2;omega
  ·by_cases F:G=d
   ·subst F;rw[cJ]at l;rw[bS _ _ e]at m;have:=(f g l).1;have:=(h.own i g m).2;omega
   ·rw[bS _ _ e]at m;rw[bS _ _ F]at l;exact h.inj i G g m l
 ·simp only[cn]at hi;by_cases e:i=d
  ·subst e;exact js _ _
  ·rw[kc e]at hi;exact dS (h.kr i a hi)
 ·have e:i≠d:=by rintro rfl;have:=h.ko i cs hi;rw[X]at this;cases this
  rw[bS _ _ e]at t;obtain⟨g,T,vs,p,A,B⟩:=h.objs i cs hi t;exact⟨g,T,vs,(bS _ _ e).trans p,(o.below.plain.block g (h.own i g (by rw[p];rfl)).2).trans A,B.mono o.below.plain.size q W Q⟩
 ·simp only[cn]at hi;by_cases e:i=d
  ·subst e;rw[lp rfl]at hi;injection hi with hi;subst hi
   obtain⟨v',xs,p,A,B,K,L⟩:=o.arrs id ar ha (by rw[E];rfl);rw[E]at p;injection p with p;subst p
   refine⟨v,xs,cJ _ _ _,⟨A.1,?_⟩,B,K,fun j N P k c z=>?_⟩
   ·rcases A.2 with hz|⟨g,I,J,r1,r2,r⟩
    ·exact .inl hz
    ·exact .inr ⟨g,I,J,r1,u4 _,r⟩
   ·obtain⟨x,U,S⟩:=L j N P k c z;exact⟨x,U,.inl ((S.flat (by omega)).mono (la _) (fun b _ n=>C b n) (fun _ _ _=>rfl) (fun _ _ h=>h))⟩
  ·rw[kc e]at hi;rw[bS _ _ e]at t;obtain⟨v1,V,p,A,B,K,L⟩:=h.arrs i a hi t;refine⟨v1,V,(bS _ _ e).trans p,fK A (fun g l=>o.below.plain.block g (h.own i g (by rw[p];exact l)).2),B,K,fun j N P k c z=>?_⟩;obtain⟨x,U,S⟩:=L j N P k c z;exact⟨x,U,S.mono o.below.plain.size q W (fun r O=>Q _ _ O) (fun r O=>o.below.plain.block r (h.j6 O)) (fun h=>h)⟩
theorem HS.ZD{M:Nat→Prop}{w0:aB}{w w':World}{ι G:Env}{s Z:AS}(h:HS M w0 w ι s)(o:HS (NN M ι) (nj w) w' G Z){id d:Nat}{ar:cj}{v:Value}(a0:id<TG)(D:G id=some v)(ha:look id Z.r=some ar)(Q:ι d=none)(hu:has s.u d=true)(S:look d s.o=none)(U:look d s.r=some ar):
  HS M w0 w' (ext ι d v) s∧(∀b,NN M (ext ι d v) b→NN (NN M ι) G b):=by
 have hl:=h.mL o.below.plain;have f:∀g,bu (some v)=some g→w.heap.size≤g∧g<w'.heap.size:=fun g m=>⟨((o.own id g (by rw[D];exact m)).1).elim (fun h=>h) (fun h=>h.elim),(o.own id g (by rw[D];exact m)).2⟩;have B:∀b,NN M (ext ι d v) b→NN (NN M ι) G b:=fun b n=>by
  rcases gk n with n|n
  ·exact .inl n
  ·exact .inr ⟨id,by rw[D];exact n⟩
 have q:∀b,b<w.heap.size→NN M (ext ι d v) b→NN M ι b:=fun b C n=>by
  rcases gk n with n|n
  ·exact n
  ·have:=(f b n).1;omega
 have X:∀b,b<w.heap.size→¬ NN M ι b→w'.heap[b]?=w.heap[b]?:=fun b C _=>o.below.plain.block b C;have P:=fd Q v;refine⟨⟨hl.below,h.old,fun i y Y=>?_,fun i g m=>?_,fun i F g m l=>?_,h.ko,h.kr,fun i cs hi t=>?_,fun i a hi t=>?_,fun i y t=>⟨P i y (h.pin i y t).1,(h.pin i y t).2⟩⟩,B⟩
 ·by_cases e:i=d
  ·subst e;exact hu
  ·rw[bS _ _ e]at Y;exact h.use i y Y
 ·by_cases e:i=d
  ·subst e;rw[cJ]at m;exact⟨.inl (RX h.below.size (f g m).1),(f g m).2⟩
  ·rw[bS _ _ e]at m;exact⟨(h.own i g m).1,by have:=(h.own i g m).2;have:=o.below.plain.size;omega⟩
 ·by_cases e:i=d
  ·by_cases E:F=d
   ·omega
   ·subst e;rw[cJ]at m;rw[bS _ _ E]at l;have:=(f g m).1;have:=(h.own F g l).2;omega
  ·by_cases E:F=d
   ·subst E;rw[cJ]at l;rw[bS _ _ e]at m;have:=(f g l).1;have:=(h.own i g m).2;omega
   ·rw[bS _ _ e]at m;rw[bS _ _ E]at l;exact h.inj i F g m l
 ·have e:i≠d:=by rintro rfl;rw[S]at hi;cases hi
  rw[bS _ _ e]at t;obtain⟨g,T,vs,p,z,A⟩:=h.objs i cs hi t;exact⟨g,T,vs,(bS _ _ e).trans p,(o.below.plain.block g (h.own i g (by rw[p];rfl)).2).trans z,A.mono o.below.plain.size q X P⟩
 ·by_cases e:i=d
  ·subst e;rw[U]at hi;injection hi with hi;subst hi
   obtain⟨v',xs,p,z,A,J,K⟩:=o.arrs id ar ha (by rw[D];rfl);rw[D]at p;injection p with p;subst p
   refine⟨v,xs,cJ _ _ _,⟨z.1,?_⟩,A,J,fun j L O k c u=>?_⟩
   ·rcases z.2 with hz|⟨g,H,I,r1,r2,r⟩
    ·exact .inl hz
    ·exact .inr ⟨g,H,I,r1,u4 _,r⟩
   ·obtain⟨x,V,R⟩:=K j L O k c u;exact⟨x,V,.inl ((R.flat (by omega)).mono (la _) (fun b _ n=>B b n) (fun _ _ _=>rfl) (fun _ _ h=>h))⟩
  ·rw[bS _ _ e]at t;obtain⟨v1,W,p,z,A,J,K⟩:=h.arrs i a hi t;refine⟨v1,W,(bS _ _ e).trans p,fK z (fun g l=>o.below.plain.block g (h.own i g (by rw[p];exact l)).2),A,J,fun j L O k c u=>?_⟩;obtain⟨x,V,R⟩:=K j L O k c u;exact⟨x,V,R.mono o.below.plain.size q X (fun r N=>P _ _ N) (fun r N=>o.below.plain.block r (h.j6 N)) (fun h=>h)⟩
end Go.Proofs.YtocgkfoifehcbaaGreat

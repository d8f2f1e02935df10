/- A slice that a callee has made comes into the caller's own. No program in sight. -/
import Derived.Test.YtocgkfoifehcbaaGreatRkActl
import Derived.Test.YtocgkfoifehcbaaGreatRkAfrm
namespace Go.Proofs.YtocgkfoifehcbaaGreat
set_option linter.all false
open Go.RowKit
def ak8:=@List.getElem?_cons_succ
mutual
def AV.fY(id a:Nat):AV→AV
 | .ref i=>if i=id then .ref a else .any
 | .ptr _ _=>.any
 | .pp _ _ _=>.any
 | .sit _ _ _ _=>.any
 | .adr g off=>.adr g off
 | .eptr _ _ _ _=>.any
 | .sref _ _ _ _=>.any
 | .agg cs=>.agg (oF id a cs)
 | .tup cs=>.tup (oF id a cs)
 | .int k n=>.int k n
 | .bool b=>.bool b
 | .str s=>.str s
 | .nils=>.nils
 | .sl l=>.sl l
 | .nilm=>.nilm
 | .mref _ _=>.any
 | .omp m=>.omp m
 | .osl e sz l=>.osl e sz l
 | .vv x=>.vv x
 | .lk _ _=>.any
 | .fn f c=>.fn f c
 | .fno _ _=>.any
 | .nilf=>.nilf
 | .nilp=>.nilp
 | .cptr cs=>.cptr cs
 | .any=>.any
def oF(id a:Nat):c6→c6
 | []=>[]
 | c::r=>c.fY id a::oF id a r
end
theorem KL{id a}:∀{l} {i:Nat} {x},(oF id a l)[i]?=some x→∃y,l[i]?=some y∧x=y.fY id a
 | [],i,x,h=>by grind[oF]
 | c::r,0,x,h=>by grind[oF]
 | c::r,i+1,x,h=>by simp only[ak8]at h⊢;exact KL h
theorem HP{id a}:∀l,(oF id a l).length=l.length
 | []=>rfl
 | c::r=>by simp[oF,HP r]
theorem Rel.fY{N N':Nat→Prop}{w:World}{ι:Env}{v:AV}{x:Value}(h:Rel N w ι v x){id E:Nat}{ι':Env}(G:∀b,N' b→N b)(Q:∀y,ι id=some y→ι' E=some y):Rel N' w ι' (v.fY id E) x:=by
 have I:∀{e:Env} {v:AV} {x:Value},Rel N w e v x→Rel N' w e v x:=fun h=>h.mono (ll _) (fun b _ u=>G b u) (fun _ _ _=>rfl) (fun _ _ h=>h)
 induction h with
 | int ι k n=>exact .int _ _ _
 | bool ι b=>exact .bool _ _
 | str ι s=>exact .str _ _
 | nils ι=>exact .nils _
 | nilm ι=>simp only[AV.fY];exact .nilm _
 | mref ι i q r v h K=>simp only[AV.fY];exact .any _ _ rfl
 | sl0 ι A c=>exact .sl0 _ _ _
 | sl ι l b o c sz t P u J a H p z D=>simp only[AV.fY];exact .sl _ l b o c sz t P u (fun h=>J (G b h)) a H (fun j e M i x C=>I (p j e M i x C)) z
 | fn ι f aO L F p D=>exact .fn _ f aO L F (fun i c y a K=>I (p i c y a K))
 | fno ι f aO L F p D=>exact .any _ _ rfl
 | nilf ι=>exact .nilf _
 | nilp ι=>exact .nilp _
 | any ι x h=>exact .any _ _ h
 | ptr ι d off g h=>exact .any _ _ rfl
 | pp ι d g off h=>exact .any _ _ rfl
 | sit _ _ _ _ _ _ _ _ _=>exact .any _ _ rfl
 | adr ι g off=>exact .adr _ _ _
 | vv ι x h=>exact .vv _ _ h
 | lk ι i v x h a=>exact .any _ _ a
 | eptr ι d sz j off g n c h=>exact .any _ _ rfl
 | sref ι d sz off m n c R A B h S=>exact .any _ _ rfl
 | cptr ι cs b o t u J a H p D=>simp only[AV.fY];exact .cptr _ cs b o t u (fun h=>J (G b h)) a H (fun i x C=>I (p i x C))
 | ref ι d A n c h =>
  simp only[AV.fY];split
  ·rename_i e;subst e;exact .ref _ _ _ _ _ (Q _ h)
  ·exact .any _ _ rfl
 | agg ι cs vs F a p D =>
  refine .agg _ _ _ (by grind[HP]) a (fun i x v C O=>?_)
  grind[KL]
 | tup ι cs vs F p D =>
  refine .tup _ _ _ (by grind[HP]) (fun i x v C O=>?_)
  grind[KL]
theorem HS.import{M:Nat→Prop}{w0:aA}{w w':World}{ι I:Env}{s s1:AS}(h:HS M w0 w ι s)(p:HS (NN M ι) (mi w) w' I s1){id d:Nat}{ar:co}{v:Value}(a0:id<TG)(F:I id=some v)(ha:look id s1.r=some ar)(Y:has s.u d=false):
  HS M w0 w' (ext ι d v) { s with r:=bm d ar s.r,u:=d::s.u }∧(∀b,NN M (ext ι d v) b→NN (NN M ι) I b):=by
 have hl:=h.mz p.below.plain;have S:=h.free Y;have f:∀g,bz (some v)=some g→w.heap.size≤g∧g<w'.heap.size:=fun g m=>⟨((p.own id g (by rw[F];exact m)).1).elim (fun h=>h) (fun h=>h.elim),(p.own id g (by rw[F];exact m)).2⟩;have D:∀b,NN M (ext ι d v) b→NN (NN M ι) I b:=fun b o=>by
  rcases gg o with o|o
  ·exact .inl o
  ·exact .inr ⟨id,by rw[F];exact o⟩
 have t:∀b,b<w.heap.size→NN M (ext ι d v) b→NN M ι b:=fun b E o=>by
  rcases gg o with o|o
  ·exact o
  ·have:=(f b o).1;omega
 have X:∀b,b<w.heap.size→¬ NN M ι b→w'.heap[b]?=w.heap[b]?:=fun b E _=>p.below.plain.block b E;have R:=ff S v;refine⟨⟨hl.below,h.old,fun i y Z=>?_,fun i g m=>?_,fun i H g m l=>?_,fun i cs n=>dY (h.ko i cs n),fun i a n=>?_,fun i cs n z=>?_,fun i a n z=>?_,fun i y z=>⟨R i y (h.pin i y z).1,qK (h.pin i y z).2⟩⟩,D⟩
 ·by_cases e:i=d
  ·subst e;exact jv _ _
  ·rw[bS _ _ e]at Z;exact dY (h.use i y Z)
 ·by_cases e:i=d
  ·subst e;rw[cI]at m;exact⟨.inl (RX h.below.size (f g m).1),(f g m).2⟩
  ·rw[bS _ _ e]at m;exact⟨(h.own i g m).1,by have:=(h.own i g m).2;have:=p.below.plain.size;omega⟩
 ·by_cases e:i=d
  ·by_cases G:H=d
   ·omega
   ·subst e;rw[cI]at m;rw[bS _ _ G]at l;have:=(f g m).1;have:=(h.own H g l).2;omega
  ·by_cases G:H=d
   ·subst G;rw[cI]at l;rw[bS _ _ e]at m;have:=(f g l).1;have:=(h.own i g m).2;omega
   ·rw[bS _ _ e]at m;rw[bS _ _ G]at l;exact h.inj i H g m l
 ·simp only[cv]at n;by_cases e:i=d
  ·subst e;exact jv _ _
  ·rw[kb e]at n;exact dY (h.kr i a n)
 ·have e:i≠d:=by rintro rfl;have:=h.ko i cs n;rw[Y]at this;cases this
  rw[bS _ _ e]at z;obtain⟨g,T,vs,q,B,C⟩:=h.objs i cs n z;exact⟨g,T,vs,(bS _ _ e).trans q,(p.below.plain.block g (h.own i g (by rw[q];rfl)).2).trans B,C.mono p.below.plain.size t X R⟩
 ·simp only[cv]at n;by_cases e:i=d
  ·subst e;rw[lc rfl]at n;injection n with n;subst n
   obtain⟨v',xs,q,B,C,L,N⟩:=p.arrs id ar ha (by rw[F];rfl);rw[F]at q;injection q with q;subst q
   refine⟨v,xs,cI _ _ _,⟨B.1,?_⟩,C,L,fun j O Q k c A=>?_⟩
   ·rcases B.2 with hz|⟨g,J,K,r1,r2,r⟩
    ·exact .inl hz
    ·exact .inr ⟨g,J,K,r1,u6 _,r⟩
   ·obtain⟨x,V,U⟩:=N j O Q k c A;exact⟨x,V,.inl ((U.flat (by omega)).mono (ll _) (fun b _ o=>D b o) (fun _ _ _=>rfl) (fun _ _ h=>h))⟩
  ·rw[kb e]at n;rw[bS _ _ e]at z;obtain⟨v1,W,q,B,C,L,N⟩:=h.arrs i a n z;refine⟨v1,W,(bS _ _ e).trans q,fR B (fun g l=>p.below.plain.block g (h.own i g (by rw[q];exact l)).2),C,L,fun j O Q k c A=>?_⟩;obtain⟨x,V,U⟩:=N j O Q k c A;exact⟨x,V,U.mono p.below.plain.size t X (fun r P=>R _ _ P) (fun r P=>p.below.plain.block r (h.j9 P)) (fun h=>h)⟩
theorem HS.af2{M:Nat→Prop}{w0:aA}{w w':World}{ι H:Env}{s s1:AS}(h:HS M w0 w ι s)(o:HS (NN M ι) (mi w) w' H s1){id d:Nat}{ar:co}{v:Value}(a0:id<TG)(E:H id=some v)(ha:look id s1.r=some ar)(R:ι d=none)(hu:has s.u d=true)(U:look d s.o=none)(V:look d s.r=some ar):
  HS M w0 w' (ext ι d v) s∧(∀b,NN M (ext ι d v) b→NN (NN M ι) H b):=by
 have hl:=h.mz o.below.plain;have f:∀g,bz (some v)=some g→w.heap.size≤g∧g<w'.heap.size:=fun g m=>⟨((o.own id g (by rw[E];exact m)).1).elim (fun h=>h) (fun h=>h.elim),(o.own id g (by rw[E];exact m)).2⟩;have C:∀b,NN M (ext ι d v) b→NN (NN M ι) H b:=fun b n=>by
  rcases gg n with n|n
  ·exact .inl n
  ·exact .inr ⟨id,by rw[E];exact n⟩
 have t:∀b,b<w.heap.size→NN M (ext ι d v) b→NN M ι b:=fun b D n=>by
  rcases gg n with n|n
  ·exact n
  ·have:=(f b n).1;omega
 have Y:∀b,b<w.heap.size→¬ NN M ι b→w'.heap[b]?=w.heap[b]?:=fun b D _=>o.below.plain.block b D;have Q:=ff R v;refine⟨⟨hl.below,h.old,fun i y Z=>?_,fun i g m=>?_,fun i G g m l=>?_,h.ko,h.kr,fun i cs q u=>?_,fun i a q u=>?_,fun i y u=>⟨Q i y (h.pin i y u).1,(h.pin i y u).2⟩⟩,C⟩
 ·by_cases e:i=d
  ·subst e;exact hu
  ·rw[bS _ _ e]at Z;exact h.use i y Z
 ·by_cases e:i=d
  ·subst e;rw[cI]at m;exact⟨.inl (RX h.below.size (f g m).1),(f g m).2⟩
  ·rw[bS _ _ e]at m;exact⟨(h.own i g m).1,by have:=(h.own i g m).2;have:=o.below.plain.size;omega⟩
 ·by_cases e:i=d
  ·by_cases F:G=d
   ·omega
   ·subst e;rw[cI]at m;rw[bS _ _ F]at l;have:=(f g m).1;have:=(h.own G g l).2;omega
  ·by_cases F:G=d
   ·subst F;rw[cI]at l;rw[bS _ _ e]at m;have:=(f g l).1;have:=(h.own i g m).2;omega
   ·rw[bS _ _ e]at m;rw[bS _ _ F]at l;exact h.inj i G g m l
 ·have e:i≠d:=by rintro rfl;rw[U]at q;cases q
  rw[bS _ _ e]at u;obtain⟨g,T,vs,p,A,B⟩:=h.objs i cs q u;exact⟨g,T,vs,(bS _ _ e).trans p,(o.below.plain.block g (h.own i g (by rw[p];rfl)).2).trans A,B.mono o.below.plain.size t Y Q⟩
 ·by_cases e:i=d
  ·subst e;rw[V]at q;injection q with q;subst q
   obtain⟨v',xs,p,A,B,K,L⟩:=o.arrs id ar ha (by rw[E];rfl);rw[E]at p;injection p with p;subst p
   refine⟨v,xs,cI _ _ _,⟨A.1,?_⟩,B,K,fun j N P k c z=>?_⟩
   ·rcases A.2 with hz|⟨g,I,J,r1,r2,r⟩
    ·exact .inl hz
    ·exact .inr ⟨g,I,J,r1,u6 _,r⟩
   ·obtain⟨x,W,S⟩:=L j N P k c z;exact⟨x,W,.inl ((S.flat (by omega)).mono (ll _) (fun b _ n=>C b n) (fun _ _ _=>rfl) (fun _ _ h=>h))⟩
  ·rw[bS _ _ e]at u;obtain⟨v1,X,p,A,B,K,L⟩:=h.arrs i a q u;refine⟨v1,X,(bS _ _ e).trans p,fR A (fun g l=>o.below.plain.block g (h.own i g (by rw[p];exact l)).2),B,K,fun j N P k c z=>?_⟩;obtain⟨x,W,S⟩:=L j N P k c z;exact⟨x,W,S.mono o.below.plain.size t Y (fun r O=>Q _ _ O) (fun r O=>o.below.plain.block r (h.j9 O)) (fun h=>h)⟩
end Go.Proofs.YtocgkfoifehcbaaGreat

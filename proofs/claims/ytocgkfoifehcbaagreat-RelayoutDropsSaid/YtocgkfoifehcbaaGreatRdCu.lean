/- An append of a part of an own slice to its beginning: elements are cut out; an own slice is shortened. No program in sight. -/
import Derived.Test.YtocgkfoifehcbaaGreatRdVy
namespace Go.Proofs.YtocgkfoifehcbaaGreat
set_option linter.all false
open Go.RowKit
def amL:=@List.take_take
theorem HS.Hg{M:Nat→Prop}{w0:aB}{w:World}{ι:Env}{s:AS}(h:HS M w0 w ι s){id g n c k:Nat}{ar:cj}(e0:w0.pv id=none)(l0:id<TG)(Y:look id s.r=some ar)(D:ι id=some (.slice (some ⟨g,0,none⟩) n c))(N:k≤ar.l.length):
  HS M w0 w (rep ι id (.slice (some ⟨g,0,none⟩) k c)) { t:=dw id s.t,o:=eV id s.o,r:=bd id { ar with l:=ar.l.take k } s.r,u:=s.u }∧(∀b,NN M (rep ι id (.slice (some ⟨g,0,none⟩) k c)) b→NN M ι b):=by
 generalize P:Value.slice (some ⟨g,0,none⟩) k c=v';have Z:bu (some v')=bu (ι id):=by rw[D,← P];rfl
 have d:∀i,i≠id→rep ι id v' i=ι i:=fun i hi=>uT _ _ hi;have A:∀i,bu (rep ι id v' i)=bu (ι i):=fun i=>by
  by_cases e:i=id
  ·subst e;rw[nc,Z]
  ·rw[d i e]
 have Q:∀b,NN M (rep ι id v') b→NN M ι b:=fun b f=>by
  rcases f with f|⟨i,f⟩
  ·exact .inl f
  ·exact .inr ⟨i,by rw[←A];exact f⟩
 have ho:∀k r,ι k=some (.map r)→rep ι id v' k=some (.map r):=fun k r N=>by
  rw[d];exact N;intro e;subst e;rw[D]at N;cases N
 refine⟨⟨h.below,h.old,fun i y S=>?_,fun i I b0=>h.own i I (by rw[←A];exact b0),fun i i' I J h2=>h.inj i i' I (by rw[←A];exact J) (by rw[←A];exact h2),fun i cs hi=>?_,fun i a hi=>?_,fun i cs hi z=>?_,fun i a hi z=>?_,fun i y z=>(by
  have e:i≠id:=fun e=>by subst e;rw[e0]at z;cases z
  exact⟨(d i e).trans (h.pin i y z).1,(h.pin i y z).2⟩)⟩,Q⟩
 ·by_cases e:i=id
  ·subst e;exact h.use i _ D
  ·rw[d i e]at S;exact h.use i y S
 ·obtain⟨u,J,_⟩:=jB hi;exact h.ko i u J
 ·simp only[cn]at hi;by_cases e:i=id
  ·subst e;exact h.use i _ D
  ·rw[kc e]at hi;exact h.kr i a hi
 ·obtain⟨u,J,rfl⟩:=jB hi;have e:i≠id:=by
   rintro rfl
   obtain⟨I,T,vs,m,_,_⟩:=h.objs i u J (by rw[D];rfl);rw[D]at m;cases m
  rw[d i e]at z;obtain⟨I,T,vs,m,H,C⟩:=h.objs i u J z;refine⟨I,T,vs,(d i e).trans m,H,by rw[l5];exact C.len,C.one,fun j x v G O=>?_⟩;obtain⟨y,S,rfl⟩:=lq G;exact((C.rel j y v S O).cO d).mono (la _) (fun b _ f=>Q b f) (fun _ _ _=>rfl) (fun _ _ h=>h)
 ·simp only[cn]at hi;by_cases e:i=id
  ·subst e;rw[lp rfl]at hi;injection hi with hi;subst hi
   obtain⟨v,xs,m,H,C,W,X⟩:=h.arrs i ar Y (by rw[D];rfl);rw[D]at m;injection m with m;subst m
   obtain⟨O,_⟩|⟨g1,h0,V,O,f,hg,i0,L,E,F⟩:=H.2
   ·cases O
   injection O with K hn a0
   injection K with K;injection K with K;subst K;subst a0
   have g0:k*ar.sz≤ar.l.length*ar.sz:=IN _ N;have m0:=H.1;have B:(ar.l.take k).length=k:=by rw[afN];omega
   refine⟨v',xs.take (k*ar.sz),nc _ _ _,⟨?_,.inr ⟨g,c,V,?_,f,hg,?_,L,E,?_⟩⟩,fun e he=>C e (u6 he),fun x G=>W x (u6 G),fun j e hj q U R=>?_⟩
   ·simp only[B];rw[afN];omega
   ·simp only[B];rw[←P]
   ·simp only[B];omega
   ·simp only[B];rw[←F,amL];congr 1;omega
   ·have p:(ar.l.take k)[j]?=some e:=hj;rw[By]at p;split at p
    ·rename_i c0;obtain⟨x,G,hr⟩:=X j e p q U R;have k0:q<ar.sz:=by rw[←C e (mm p)];exact(jt.1 R).1
     have d0:j*ar.sz+q<k*ar.sz:=by
      have:(j+1)*ar.sz≤k*ar.sz:=IN _ c0;rw[ajK,ak9]at this;omega
     exact⟨x,by rw[By,lp d0];exact G,.inl ((hr.flat (by omega)).mono (la _) (fun b _ f=>Q b f) (fun _ _ _=>rfl) (fun _ _ h=>h))⟩
    ·cases p
  ·rw[kc e]at hi;rw[d i e]at z;obtain⟨v1,f0,m,H,C,W,X⟩:=h.arrs i a hi z;refine⟨v1,f0,(d i e).trans m,H,C,W,fun j el hj q U R=>?_⟩;obtain⟨x,G,hr⟩:=X j el hj q U R;exact⟨x,G,hr.mono (la _) (fun b _ f=>Q b f) (fun _ _ _=>rfl) (ho _) (fun _ _=>rfl) (fun h=>h)⟩
theorem aV.Hg{d}{s}{a}{w}{ι}(h:aV d s a w ι){id g n c k}{ar}(f:d.w0.pv id=none)(m:id<TG)(e:look id s.r=some ar)(E:ι id=some (.slice (some ⟨g,0,none⟩) n c))(A:k≤ar.l.length):
  aV d { t:=dw id s.t,o:=eV id s.o,r:=bd id { ar with l:=ar.l.take k } s.r,u:=s.u } a w (rep ι id (.slice (some ⟨g,0,none⟩) k c)):=by
 obtain⟨p,q⟩:=h.hs.Hg f m e E A;refine⟨p,h.dfr,h.n,fun j v z=>?_⟩;obtain⟨u,C,rfl⟩:=ow z;obtain⟨x,D,B⟩:=h.tmp j u C;exact⟨x,D,(B.cO (fun i hi=>uT _ _ hi)).mono (by omega) (fun b _ y=>q b y) (fun _ _ _=>rfl) (fun _ _ h=>h)⟩
end Go.Proofs.YtocgkfoifehcbaaGreat

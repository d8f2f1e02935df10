/- Slices that cells of an own slice own: they come out under a name of their own, and go back. No program in sight. -/
import Derived.Test.YtocgkfoifehcbaaGreatRdVp
namespace Go.Proofs.YtocgkfoifehcbaaGreat
set_option linter.all false
open Go.RowKit
def oV(l:h6)(j i:Nat)(c:AV):h6:=l.set j ((l.getD j []).set i c)
theorem akp l j i c:(oV l j i c).length=l.length:=by simp[oV]
theorem Xt{l}{j i}{c}{b}{f}(h:(oV l j i c)[b]?=some f){a}{d}(g:f[a]?=some d):
  (b=j∧a=i∧d=c)∨(¬ (b=j∧a=i)∧∃e,l[b]?=some e∧e[a]?=some d):=by
 grind[oV]
theorem acb{l}{j i}{c}{sz}(h:∀e∈l,e.length=sz):∀e∈oV l j i c,e.length=sz:=by
 intro e a;unfold oV at a;by_cases b:j<l.length
 ·grind
 ·rw[ami (by omega)]at a;grind
theorem ahz{sz j i b a:Nat}(hi:i<sz)(c:a<sz)(h:¬ (b=j∧a=i)):b*sz+a≠j*sz+i:=by
 intro e;have d:(b*sz+a) / sz=b:=by rw[als,Nat.mul_add_div (by omega),ams c,ak5]
 have f:(j*sz+i) / sz=j:=by rw[als,Nat.mul_add_div (by omega),ams hi,ak5]
 grind
theorem aaC{w:World}{B}{e}{sz n}{v}{xs}(h:w.ownsRow B e sz v n xs):∃A m c,v=.slice A m c:=by
 rcases h.2 with⟨a,_⟩|⟨_,_,_,a,_⟩<;>exact⟨_,_,_,a⟩
def oO(ι:Env)(κ a:Nat)(x:Value):Env:=fun k=>if k=κ then none else if k=a then some x else ι k
theorem HS.out{M:Nat→Prop}{w0:aB}{w:World}{ι:Env}{s:AS}(h:HS M w0 w ι s){id j i f b0:Nat}{a:cj}{e:c6}{et:TypeId}{l2:h6}(q0:f<dX)(X:has s.u f=false)(H:oi s=true)(Y:yr s=true)
  (N:look id s.r=some a) (hp:(ι id).isSome=true) (hj:a.l[j]?=some e) (hi:e[i]?=some (.osl et b0 l2)) :
  ∃x,(∃A n c,x=.slice A n c)∧(∃v xs,ι id=some v∧w.ownsRow 0 a.e a.sz v a.l.length xs∧xs[j*a.sz+i]?=some x) ∧
   HS M w0 w (oO ι (nm id (j*a.sz+i)) f x) ⟨s.t,s.o,bd f ⟨et,b0,l2⟩ (bd id ⟨a.e,a.sz,oV a.l j i (.vv x)⟩ s.r),f::s.u⟩ ∧
   (∀b,NN M (oO ι (nm id (j*a.sz+i)) f x) b→NN M ι b)∧(∀{c:AV} {y:Value},c.iG=true→Rel (NN M ι) w ι c y→Rel (NN M (oO ι (nm id (j*a.sz+i)) f x)) w (oO ι (nm id (j*a.sz+i)) f x) c y):=by
 obtain⟨v,xs,e1,e2,e3,e4,e5⟩:=h.arrs id a N hp;obtain⟨x,hx,Z⟩:=e5 j e hj i _ hi;rcases Z with Z|⟨_,_,_,m,_⟩|⟨r0,p0,t0,l',r,m,ho,O,K⟩
 ·cases Z
 ·cases m
 injection m with a1 a2 a3;subst a1;subst a2;subst a3
 generalize hκ:nm id (j*a.sz+i)=κ at *;have s0:dX≤κ:=by rw[←hκ];exact CM _ _
 have a0:∃A n c,x=.slice A n c:=by obtain⟨c0,o,_⟩:=K;exact aaC o
 have o0:ι f=none:=by
  cases ht:ι f with
  | none=>rfl
  | some y=>have:=h.use f y ht;rw[X]at this;cases this
 generalize I:oO ι κ f x=p;have i0:p κ=none:=by rw[←I];simp[oO]
 have i1:p f=some x:=by rw[←I];show(if f=κ then none else if f=f then some x else ι f)=some x;rw[kc (by omega),lp rfl]
 have S:∀k,k≠κ→k≠f→p k=ι k:=fun k o l=>by rw[←I];simp only[oO];rw[kc o,kc l]
 have iS:∀k y,p k=some y→(k=f∧y=x)∨(k≠κ∧k≠f∧ι k=some y):=fun k y d=>by
  by_cases o:k=κ
  ·subst o;rw[i0]at d;cases d
  ·by_cases l:k=f
   ·subst l;rw[i1]at d;injection d with d;exact .inl ⟨rfl,d.symm⟩
   ·rw[S k o l]at d;exact .inr ⟨o,l,d⟩
 have bκ:bu (ι κ)=bu (some x):=by rw[ho,O];cases r<;>rfl
 have hB:∀k b,bu (p k)=some b→(k=f∧bu (ι κ)=some b)∨(k≠κ∧k≠f∧bu (ι k)=some b):=fun k b d=>by
  cases G:p k with
  | none=>rw[G]at d;cases d
  | some y =>
   obtain⟨o,l⟩|⟨o,l,h3⟩:=iS k y G
   ·subst l;rw[G]at d;exact .inl ⟨o,bκ.trans d⟩
   ·rw[G]at d;exact .inr ⟨o,l,by rw[h3];exact d⟩
 have hN:∀b,NN M p b→NN M ι b:=fun b d0=>by
  rcases d0 with o|⟨k,d⟩
  ·exact .inl o
  ·obtain⟨_,l⟩|⟨_,_,l⟩:=hB k b d
   ·exact .inr ⟨κ,l⟩
   ·exact .inr ⟨k,l⟩
 have J:∀{c:AV} {y:Value},c.iG=true→Rel (NN M ι) w ι c y→Rel (NN M p) w p c y:=fun {c y} hc z =>
  (z.low (ι':=fun k=>if k=κ then none else ι k) (fun k d=>kc (by omega)) hc).mono (la _) (fun b _ O=>hN b O) (fun _ _ _=>rfl) (fun k y d=>by
   have d:(if k=κ then none else ι k)=some y:=d;split at d
   ·cases d
   ·rename_i o;rw[S k o (fun e=>by subst e;rw[o0]at d;cases d)];exact d)
 have P:∀{c:AV} {y:Value},Rel (NN M ι) w bH c y→Rel (NN M p) w bH c y:=fun {c y} z=>z.mono (la _) (fun b _ O=>hN b O) (fun _ _ _=>rfl) (fun _ _ h=>h);have u:∀{t:Prop} {k:Nat} {c:AV} {y:Value},dX≤k→k≠κ→gv (NN M ι) w t (ι k) c y→gv (NN M p) w t (p k) c y:=fun {t k c y} d Q z =>
  z.mono (la _) (fun b _ O=>hN b O) (fun _ _ _=>rfl) (fun r Z=>by rw[S k Q (by omega)];exact Z) (fun _ _=>rfl) (fun h=>h)
 refine⟨x,a0,⟨v,xs,e1,e2,hx⟩,?_⟩;rw[I];refine⟨⟨h.below,h.old,fun k y d=>?_,fun k b d=>?_,fun k k' b d h0=>?_,fun k cs d=>?_,fun k b d=>?_,fun k cs d E=>?_,fun k b d E=>?_,fun k y d=>(ahe h H d).elim⟩,hN,J⟩
 ·obtain⟨o,_⟩|⟨_,_,h3⟩:=iS k y d
  ·subst o;exact ft (by simp)
  ·exact dS (h.use k y h3)
 ·obtain⟨_,l⟩|⟨_,_,l⟩:=hB k b d
  ·exact h.own κ b l
  ·exact h.own k b l
 ·rcases hB k b d with⟨g1,l⟩|⟨g1,g2,l⟩<;>obtain⟨g3,h4⟩|⟨g3,g4,h4⟩:=hB k' b h0
  ·exact g1.trans g3.symm
  ·exact absurd (h.inj k' κ b h4 l) g3
  ·exact absurd (h.inj k κ b l h4) g1
  ·exact h.inj k k' b l h4
 ·exact dS (h.ko k cs d)
 ·simp only[cn]at d;split at d
  ·rename_i m;subst m;exact ft (by simp)
  ·split at d
   ·rename_i m;subst m;exact dS (h.kr _ _ N)
   ·exact dS (h.kr k b d)
 ·have k0:k≠f:=fun m=>by subst m;have:=h.ko _ _ d;rw[X]at this;cases this
  have D:k≠κ:=fun m=>by have:=afJ H d;omega
  rw[S k D k0]at E⊢;obtain⟨g,T,vs,c1,c2,V⟩:=h.objs k cs d E;have l0:mO cs=true:=by
   simp only[yr,iO,n3]at Y;exact Y.2 _ (yv d)
  exact⟨g,T,vs,c1,c2,V.len,V.one,fun q c y hc hy=>J (o5 l0 q c hc) (V.rel q c y hc hy)⟩
 ·simp only[cn]at d;by_cases F:k=f
  ·subst F;rw[lp rfl]at d;injection d with d;subst d
   obtain⟨c0,r1,r2,r3,r4⟩:=K;refine⟨x,c0,i1,r1,r2,r3,fun j' e' C R U B=>?_⟩;obtain⟨y,y1,y2⟩:=r4 j' e' C R U B;exact⟨y,y1,.inl (P y2)⟩
  ·rw[kc F]at d;by_cases L:k=id
   ·subst L;rw[lp rfl]at d;injection d with d;subst d
    have D:k≠κ:=fun m=>by have:=U1 H N;omega
    refine⟨v,xs,(S k D F).trans e1,by simpa[akp]using e2,acb e3,e4,fun j' e' C R U B=>?_⟩;have m0:e.length=a.sz:=e3 e (mm hj);have f0:i<a.sz:=by rw[←m0];exact(jt.1 hi).1
    obtain⟨q1,q2,q3⟩|⟨Q,W,q1,q2⟩:=Xt C B
    ·subst q1;subst q2;subst q3;exact⟨x,hx,.inl (.vv _ _ (by obtain⟨A,n,c,rfl⟩:=a0;rfl))⟩
    ·obtain⟨y,y1,y2⟩:=e5 j' W q1 R U q2;have g0:R<a.sz:=by rw[←e3 W (mm q1)];exact(jt.1 q2).1
     exact⟨y,y1,u (CM _ _) (fun m=>by rw[←hκ]at m;exact ahz f0 g0 Q (Vv m).2) y2⟩
   ·rw[kc L]at d;have D:k≠κ:=fun m=>by have:=U1 H d;omega
    rw[S k D F]at E⊢;obtain⟨v',xs',c1,c2,V,c4,c5⟩:=h.arrs k b d E;refine⟨v',xs',c1,c2,V,c4,fun j' e' C R U B=>?_⟩;obtain⟨y,y1,y2⟩:=c5 j' e' C R U B;exact⟨y,y1,u (CM _ _) (fun m=>by rw[←hκ]at m;exact L (Vv m).1) y2⟩
open Classical in
theorem ai1{s:AS}(h:yr s=true){k:Nat}{v:AV}(a:look k s.t=some v):v.iG=true:=by
 simp only[yr,iO,n3]at h;exact h.1 _ (yv a)
section
variable{b:Cx}{Q:Exit→Act→World→Prop}{c:dt}{s:AS}
def P4(id j i b d:Nat)(a:cj)(et:TypeId)(c:Nat)(e:h6)(x:Value)(s:AS):AS :=
 ⟨bd d (.lk b x) s.t,s.o,bd b ⟨et,c,e⟩ (bd id ⟨a.e,a.sz,oV a.l j i (.vv x)⟩ s.r),b::s.u⟩
theorem aV.out{A:Act}{w:World}{ι:Env}(h:aV b s A w ι){id j i c n d:Nat}{a:cj}{e:c6}{et:TypeId}{B:h6}{c0:AV}(q:c<dX)(p:has s.u c=false)(r:oi s=true)(l:yr s=true)
  (o:look id s.r=some a) (F:(ι id).isSome=true) (E:a.l[j]?=some e) (hi:e[i]?=some (.osl et n B)) (D:look d s.t=some c0) (m:c0.DC=true) :
  ∃x,aV b (P4 id j i c d a et n B x s) A w (oO ι (nm id (j*a.sz+i)) c x):=by
 obtain⟨x,_,_,f,G,C⟩:=h.hs.out q p r l o F E hi;refine⟨x,⟨f.below,f.old,f.use,f.own,f.inj,f.ko,f.kr,f.objs,f.arrs,f.pin⟩,h.dfr,h.n,fun k v g=>?_⟩;simp only[P4,cn]at g;by_cases z:k=d
 ·subst z;rw[lp rfl]at g;injection g with g;subst g
  obtain⟨y,u,t⟩:=h.tmp k c0 D;refine⟨y,u,.lk _ _ _ _ ?_ (t.one m)⟩;show(if c=_ then none else if c=c then some x else ι c)=some x;rw[kc (by have:=CM id (j*a.sz+i);omega),lp rfl]
 ·rw[kc z]at g;obtain⟨y,u,t⟩:=h.tmp k v g;exact⟨y,u,C (ai1 l g) t⟩
end
def xe(a:Nat):List Oper→Bool
 | []=>true
 | o::r=>(match o.dst with|some d=>!Nat.beq d a|none=>true)&&xe a r
theorem Hj{b:Nat}:∀{l:List Oper},xe b l=true→∀o∈l,o.dst≠some b
 | [],_,o,a=>by cases a
 | c::r,h,o,a=>by
  simp only[xe,iO]at h;rcases ol.1 a with e|a
  ·subst e;intro e;rw[e]at h;have:=h.1;simp at this
  ·exact Hj h.2 o a
end Go.Proofs.YtocgkfoifehcbaaGreat

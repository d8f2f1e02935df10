/- Slices that cells of an own slice own: they come out under a name of their own, and go back. No program in sight. -/
import Derived.Test.YtnpmlepplfaijaaGreatIwVp
namespace Go.Proofs.YtnpmlepplfaijaaGreat
set_option linter.all false
open Go.RowKit
def cU(l:List (List AV))(j i:Nat)(c:AV):List (List AV):=l.set j ((l.getD j []).set i c)
theorem uJ(l:List (List AV))(j i:Nat)(c:AV):(cU l j i c).length=l.length:=by simp[cU]
theorem EW{l:List (List AV)}{j i:Nat}{c:AV}{j':Nat}{e':List AV}(h:(cU l j i c)[j']?=some e'){i':Nat}{c':AV}(h2:e'[i']?=some c'):
  (j'=j∧i'=i∧c'=c)∨(¬ (j'=j∧i'=i)∧∃e,l[j']?=some e∧e[i']?=some c'):=by
 unfold cU at h;rw[List.getElem?_set]at h;split at h
 ·rename_i e;subst e;split at h
  ·rename_i hl;injection h with h;subst h
   rw[List.getD_eq_getElem?_getD,List.getElem?_eq_getElem hl,Option.getD_some,List.getElem?_set]at h2;split at h2
   ·rename_i e2;subst e2;split at h2
    ·injection h2 with h2;exact .inl ⟨rfl,rfl,h2.symm⟩
    ·cases h2
   ·rename_i hne;exact .inr ⟨fun hh=>hne hh.2.symm,_,List.getElem?_eq_getElem hl,h2⟩
  ·cases h
 ·rename_i hne;exact .inr ⟨fun hh=>hne hh.1.symm,e',h,h2⟩
theorem F6{l:List (List AV)}{j i:Nat}{c:AV}{sz:Nat}(h:∀e∈l,e.length=sz):∀e∈cU l j i c,e.length=sz:=by
 intro e he;unfold cU at he;by_cases hl:j<l.length
 ·rcases List.mem_or_eq_of_mem_set he with h1|h1
  ·exact h e h1
  ·subst h1;rw[List.length_set,List.getD_eq_getElem?_getD,List.getElem?_eq_getElem hl,Option.getD_some];exact h _ (List.getElem_mem _)
 ·rw[List.set_eq_of_length_le (by omega)]at he;exact h e he
theorem J0{sz j i j' i':Nat}(hi:i<sz)(hi':i'<sz)(h:¬ (j'=j∧i'=i)):j'*sz+i'≠j*sz+i:=by
 intro e;apply h;have h1:(j'*sz+i') / sz=j':=by rw[Nat.mul_comm,Nat.mul_add_div (by omega),Nat.div_eq_of_lt hi',Nat.add_zero]
 have h2:(j*sz+i) / sz=j:=by rw[Nat.mul_comm,Nat.mul_add_div (by omega),Nat.div_eq_of_lt hi,Nat.add_zero]
 rw[e,h2]at h1;subst h1;exact⟨rfl,by omega⟩
theorem On{w:World}{B:Nat}{e:TypeId}{sz n:Nat}{v:Value}{xs:List Value}(h:w.ownsRow B e sz v n xs):∃A m c,v=.slice A m c:=by
 rcases h.2 with⟨hv,_⟩|⟨_,_,_,hv,_⟩<;>exact⟨_,_,_,hv⟩
def mq(ι:Env)(κ tid:Nat)(x:Value):Env:=fun k=>if k=κ then none else if k=tid then some x else ι k
theorem HS.out{M:Nat→Prop}{w0:aF}{w:World}{ι:Env}{s:AS}(h:HS M w0 w ι s){id j i tid sz2:Nat}{a:bo}{e:List AV}{et:TypeId}{l2:List (List AV)}(hlt:tid<c7)(hfr:has s.u tid=false)(hpl:eP s=true)(hnm:eY s=true)
  (har:look id s.r=some a) (hp:(ι id).isSome=true) (hj:a.l[j]?=some e) (hi:e[i]?=some (.osl et sz2 l2)) :
  ∃x,(∃A n c,x=.slice A n c)∧(∃v xs,ι id=some v∧w.ownsRow 0 a.e a.sz v a.l.length xs∧xs[j*a.sz+i]?=some x) ∧
   HS M w0 w (mq ι (nm id (j*a.sz+i)) tid x) ⟨s.t,s.o,aU tid ⟨et,sz2,l2⟩ (aU id ⟨a.e,a.sz,cU a.l j i (.vv x)⟩ s.r),tid::s.u⟩ ∧
   (∀b,NN M (mq ι (nm id (j*a.sz+i)) tid x) b→NN M ι b)∧(∀{c:AV} {y:Value},c.dD=true→Rel (NN M ι) w ι c y→Rel (NN M (mq ι (nm id (j*a.sz+i)) tid x)) w (mq ι (nm id (j*a.sz+i)) tid x) c y):=by
 obtain⟨v,xs,e1,e2,e3,e4,e5⟩:=h.arrs id a har hp;obtain⟨x,hx,hr⟩:=e5 j e hj i _ hi;rcases hr with hr|⟨_,_,_,e0,_⟩|⟨htg,et',sz',l',r,e0,ho,hb,hrow⟩
 ·cases hr
 ·cases e0
 injection e0 with a1 a2 a3;subst a1;subst a2;subst a3
 generalize hκ:nm id (j*a.sz+i)=κ at *;have hκb:c7≤κ:=by rw[←hκ];exact l5 _ _
 have hxs:∃A n c,x=.slice A n c:=by obtain⟨xs2,h1,_⟩:=hrow;exact On h1
 have htn:ι tid=none:=by
  cases ht:ι tid with
  | none=>rfl
  | some y=>have:=h.use tid y ht;rw[hfr]at this;cases this
 generalize hι2:mq ι κ tid x=ι2;have i0:ι2 κ=none:=by rw[←hι2];simp[mq]
 have i1:ι2 tid=some x:=by rw[←hι2];show(if tid=κ then none else if tid=tid then some x else ι tid)=some x;rw[if_neg (by omega),if_pos rfl]
 have i2:∀k,k≠κ→k≠tid→ι2 k=ι k:=fun k h1 h2=>by rw[←hι2];simp only[mq];rw[if_neg h1,if_neg h2]
 have iS:∀k y,ι2 k=some y→(k=tid∧y=x)∨(k≠κ∧k≠tid∧ι k=some y):=fun k y hk=>by
  by_cases h1:k=κ
  ·subst h1;rw[i0]at hk;cases hk
  ·by_cases h2:k=tid
   ·subst h2;rw[i1]at hk;injection hk with hk;exact .inl ⟨rfl,hk.symm⟩
   ·rw[i2 k h1 h2]at hk;exact .inr ⟨h1,h2,hk⟩
 have bκ:bK (ι κ)=bK (some x):=by rw[ho,hb];cases r<;>rfl
 have hB:∀k b,bK (ι2 k)=some b→(k=tid∧bK (ι κ)=some b)∨(k≠κ∧k≠tid∧bK (ι k)=some b):=fun k b hk=>by
  cases hk2:ι2 k with
  | none=>rw[hk2]at hk;cases hk
  | some y =>
   obtain⟨h1,h2⟩|⟨h1,h2,h3⟩:=iS k y hk2
   ·subst h2;rw[hk2]at hk;exact .inl ⟨h1,bκ.trans hk⟩
   ·rw[hk2]at hk;exact .inr ⟨h1,h2,by rw[h3];exact hk⟩
 have hN:∀b,NN M ι2 b→NN M ι b:=fun b hb'=>by
  rcases hb' with h1|⟨k,hk⟩
  ·exact .inl h1
  ·obtain⟨_,h2⟩|⟨_,_,h2⟩:=hB k b hk
   ·exact .inr ⟨κ,h2⟩
   ·exact .inr ⟨k,h2⟩
 have hrel:∀{c:AV} {y:Value},c.dD=true→Rel (NN M ι) w ι c y→Rel (NN M ι2) w ι2 c y:=fun {c y} hc hcy =>
  (hcy.low (ι':=fun k=>if k=κ then none else ι k) (fun k hk=>if_neg (by omega)) hc).mono (Nat.le_refl _) (fun b _ hb=>hN b hb) (fun _ _ _=>rfl) (fun k y hk=>by
   have hk:(if k=κ then none else ι k)=some y:=hk;split at hk
   ·cases hk
   ·rename_i h1;rw[i2 k h1 (fun e=>by subst e;rw[htn]at hk;cases hk)];exact hk)
 have hflat:∀{c:AV} {y:Value},Rel (NN M ι) w bO c y→Rel (NN M ι2) w bO c y:=fun {c y} hcy=>hcy.mono (Nat.le_refl _) (fun b _ hb=>hN b hb) (fun _ _ _=>rfl) (fun _ _ h=>h);have hcell:∀{t:Prop} {k:Nat} {c:AV} {y:Value},c7≤k→k≠κ→eH (NN M ι) w t (ι k) c y→eH (NN M ι2) w t (ι2 k) c y:=fun {t k c y} hk hne hcy =>
  hcy.mono (Nat.le_refl _) (fun b _ hb=>hN b hb) (fun _ _ _=>rfl) (fun r hr=>by rw[i2 k hne (by omega)];exact hr) (fun _ _=>rfl) (fun h=>h)
 refine⟨x,hxs,⟨v,xs,e1,e2,hx⟩,?_⟩;rw[hι2];refine⟨⟨h.below,h.old,fun k y hk=>?_,fun k b hk=>?_,fun k k' b hk hk'=>?_,fun k cs hk=>?_,fun k b hk=>?_,fun k cs hk hp'=>?_,fun k b hk hp'=>?_,fun k y hk=>(F0 h hpl hk).elim⟩,hN,hrel⟩
 ·obtain⟨h1,_⟩|⟨_,_,h3⟩:=iS k y hk
  ·subst h1;exact fQ (by simp)
  ·exact dw (h.use k y h3)
 ·obtain⟨_,h2⟩|⟨_,_,h2⟩:=hB k b hk
  ·exact h.own κ b h2
  ·exact h.own k b h2
 ·rcases hB k b hk with⟨g1,h2⟩|⟨g1,g2,h2⟩<;>obtain⟨g3,h4⟩|⟨g3,g4,h4⟩:=hB k' b hk'
  ·exact g1.trans g3.symm
  ·exact absurd (h.inj k' κ b h4 h2) g3
  ·exact absurd (h.inj k κ b h2 h4) g1
  ·exact h.inj k k' b h2 h4
 ·exact dw (h.ko k cs hk)
 ·simp only[ce]at hk;split at hk
  ·rename_i e0;subst e0;exact fQ (by simp)
  ·split at hk
   ·rename_i e0;subst e0;exact dw (h.kr _ _ har)
   ·exact dw (h.kr k b hk)
 ·have hkt:k≠tid:=fun e0=>by subst e0;have:=h.ko _ _ hk;rw[hfr]at this;cases this
  have hkκ:k≠κ:=fun e0=>by have:=C2 hpl hk;omega
  rw[i2 k hkκ hkt]at hp'⊢;obtain⟨g,T,vs,c1,c2,c3⟩:=h.objs k cs hk hp';have hno:gC cs=true:=by
   simp only[eY,Bool.and_eq_true,List.all_eq_true]at hnm;exact hnm.2 _ (ow hk)
  exact⟨g,T,vs,c1,c2,c3.len,c3.one,fun q c y hc hy=>hrel (js hno q c hc) (c3.rel q c y hc hy)⟩
 ·simp only[ce]at hk;by_cases ekt:k=tid
  ·subst ekt;rw[if_pos rfl]at hk;injection hk with hk;subst hk
   obtain⟨xs2,r1,r2,r3,r4⟩:=hrow;refine⟨x,xs2,i1,r1,r2,r3,fun j' e' hj' i' c' hi'=>?_⟩;obtain⟨y,y1,y2⟩:=r4 j' e' hj' i' c' hi';exact⟨y,y1,.inl (hflat y2)⟩
  ·rw[if_neg ekt]at hk;by_cases eki:k=id
   ·subst eki;rw[if_pos rfl]at hk;injection hk with hk;subst hk
    have hkκ:k≠κ:=fun e0=>by have:=pV hpl har;omega
    refine⟨v,xs,(i2 k hkκ ekt).trans e1,by simpa[uJ]using e2,F6 e3,e4,fun j' e' hj' i' c' hi'=>?_⟩;have hsz:e.length=a.sz:=e3 e (List.mem_of_getElem? hj);have hi1:i<a.sz:=by rw[←hsz];exact(List.getElem?_eq_some_iff.1 hi).1
    obtain⟨q1,q2,q3⟩|⟨hne,e'',q1,q2⟩:=EW hj' hi'
    ·subst q1;subst q2;subst q3;exact⟨x,hx,.inl (.vv _ _ (by obtain⟨A,n,c,rfl⟩:=hxs;rfl))⟩
    ·obtain⟨y,y1,y2⟩:=e5 j' e'' q1 i' c' q2;have hi2:i'<a.sz:=by rw[←e3 e'' (List.mem_of_getElem? q1)];exact(List.getElem?_eq_some_iff.1 q2).1
     exact⟨y,y1,hcell (l5 _ _) (fun e0=>by rw[←hκ]at e0;exact J0 hi1 hi2 hne (va e0).2) y2⟩
   ·rw[if_neg eki]at hk;have hkκ:k≠κ:=fun e0=>by have:=pV hpl hk;omega
    rw[i2 k hkκ ekt]at hp'⊢;obtain⟨v',xs',c1,c2,c3,c4,c5⟩:=h.arrs k b hk hp';refine⟨v',xs',c1,c2,c3,c4,fun j' e' hj' i' c' hi'=>?_⟩;obtain⟨y,y1,y2⟩:=c5 j' e' hj' i' c' hi';exact⟨y,y1,hcell (l5 _ _) (fun e0=>by rw[←hκ]at e0;exact eki (va e0).1) y2⟩
mutual
theorem Lx{id:Nat}:∀{v:AV},v.dD=true→(v.bX id).dD=true
 | .ref i,h=>by simp only[AV.bX];split;rfl;exact h
 | .eptr i _ _ _,h=>by simp only[AV.bX];split;rfl;exact h
 | .sref i _ _ _,h=>by simp only[AV.bX];split;rfl;exact h
 | .ptr i _,h=>by simp only[AV.bX];split;rfl;exact h
 | .pp i _ _,h=>by simp only[AV.bX];split;rfl;exact h
 | .sit i _ _ _,h=>by simp only[AV.bX];split;rfl;exact h
 | .lk i _,h=>by simp only[AV.bX];split;rfl;exact h
 | .adr _ _,h=>rfl
 | .agg cs,h=>by simp only[AV.bX,AV.dD]at h⊢;exact Ak h
 | .tup cs,h=>by simp only[AV.bX,AV.dD]at h⊢;exact Ak h
 | .int _ _,h=>rfl
 | .bool _,h=>rfl
 | .str _,h=>rfl
 | .nils,h=>rfl
 | .sl _,h=>rfl
 | .nilm,h=>rfl
 | .mref _ _,h=>rfl
 | .omp _,h=>rfl
 | .osl _ _ _,h=>rfl
 | .vv _,h=>rfl
 | .fn _ _,h=>rfl
 | .fno _ cs,h=>by simp only[AV.bX,AV.dD]at h⊢;exact Ak h
 | .nilf,h=>rfl
 | .nilp,h=>rfl
 | .cptr _,h=>rfl
 | .any,h=>rfl
theorem Ak{id:Nat}:∀{l:List AV},gC l=true→gC (gz id l)=true
 | [],_=>rfl
 | c::r,h=>by
  simp only[gC,gz,Bool.and_eq_true]at h⊢;exact⟨Lx h.1,Ak h.2⟩
end
def ny(ι:Env)(κ tid:Nat)(x:Value):Env:=fun k=>if k=κ then some (.map (bK (some x))) else if k=tid then none else ι k
theorem HS.Ff{M:Nat→Prop}{w0:aF}{w:World}{ι:Env}{s:AS}(h:HS M w0 w ι s){id j i tid:Nat}{a b:bo}{e:List AV}{x:Value}(htg:TG≤id)(hlt:tid<TG)(hpl:eP s=true)(hnm:eY s=true)
  (har:look id s.r=some a) (hat:look tid s.r=some b) (hp:(ι id).isSome=true) (hj:a.l[j]?=some e) (hi:e[i]?=some (.vv x)) (hx:ι tid=some x) :
  HS M w0 w (ny ι (nm id (j*a.sz+i)) tid x) ⟨cR tid s.t,dv tid s.o,era tid (aU id ⟨a.e,a.sz,cU a.l j i (.osl b.e b.sz b.l)⟩ s.r),s.u⟩ ∧
   (∀g,NN M (ny ι (nm id (j*a.sz+i)) tid x) g→NN M ι g)∧(∀{c:AV} {y:Value},c.dD=true→Rel (NN M ι) w ι c y→Rel (NN M (ny ι (nm id (j*a.sz+i)) tid x)) w (ny ι (nm id (j*a.sz+i)) tid x) (c.bX tid) y):=by
 have hTB:TG<c7:=by decide
 obtain⟨v,xs,e1,e2,e3,e4,e5⟩:=h.arrs id a har hp;obtain⟨X,hX,hr⟩:=e5 j e hj i _ hi;have hXx:X=x:=by
  rcases hr with hr|⟨_,_,_,e0,_⟩|⟨_,_,_,_,_,e0,_⟩
  ·cases hr;rfl
  ·cases e0
  ·cases e0
 subst hXx;obtain⟨v2,xs2,f1,f2,f3,f4,f5⟩:=h.arrs tid b hat (by rw[hx];rfl);rw[hx]at f1;injection f1 with f1;subst f1
 generalize hκ:nm id (j*a.sz+i)=κ at *;have hκb:c7≤κ:=by rw[←hκ];exact l5 _ _
 generalize hι2:ny ι κ tid X=ι2;have i0:ι2 κ=some (.map (bK (some X))):=by rw[←hι2];simp[ny]
 have i1:ι2 tid=none:=by rw[←hι2];show(if tid=κ then _ else if tid=tid then none else ι tid)=none;rw[if_neg (by omega),if_pos rfl]
 have i2:∀k,k≠κ→k≠tid→ι2 k=ι k:=fun k h1 h2=>by rw[←hι2];simp only[ny];rw[if_neg h1,if_neg h2]
 have bκ:bK (ι2 κ)=bK (ι tid):=by rw[i0,hx];cases bK (some X)<;>rfl
 have hB:∀k g,bK (ι2 k)=some g→(k=κ∧bK (ι tid)=some g)∨(k≠κ∧k≠tid∧bK (ι k)=some g):=fun k g hk=>by
  by_cases h1:k=κ
  ·subst h1;exact .inl ⟨rfl,bκ.symm.trans hk⟩
  ·by_cases h2:k=tid
   ·subst h2;rw[i1]at hk;cases hk
   ·rw[i2 k h1 h2]at hk;exact .inr ⟨h1,h2,hk⟩
 have hN:∀g,NN M ι2 g→NN M ι g:=fun g hg=>by
  rcases hg with h1|⟨k,hk⟩
  ·exact .inl h1
  ·obtain⟨_,h2⟩|⟨_,_,h2⟩:=hB k g hk
   ·exact .inr ⟨tid,h2⟩
   ·exact .inr ⟨k,h2⟩
 have hrel:∀{c:AV} {y:Value},c.dD=true→Rel (NN M ι) w ι c y→Rel (NN M ι2) w ι2 (c.bX tid) y:=fun {c y} hc hcy =>
  ((hcy.bX (id:=tid) (ι':=fun k=>if k=tid then none else ι k) (fun k hk=>if_neg hk)).low (ι':=ι2) (fun k hk=>by
   show ι2 k=if k=tid then none else ι k;by_cases h2:k=tid
   ·subst h2;rw[i1,if_pos rfl]
   ·rw[if_neg h2,i2 k (by omega) h2]) (Lx hc)).mono (Nat.le_refl _) (fun b _ hb=>hN b hb) (fun _ _ _=>rfl) (fun _ _ h=>h)
 have hflat:∀{c:AV} {y:Value},Rel (NN M ι) w bO c y→Rel (NN M ι2) w bO c y:=fun {c y} hcy=>hcy.mono (Nat.le_refl _) (fun b _ hb=>hN b hb) (fun _ _ _=>rfl) (fun _ _ h=>h);have hcell:∀{t:Prop} {k:Nat} {c:AV} {y:Value},c7≤k→k≠κ→eH (NN M ι) w t (ι k) c y→eH (NN M ι2) w t (ι2 k) c y:=fun {t k c y} hk hne hcy =>
  hcy.mono (Nat.le_refl _) (fun b _ hb=>hN b hb) (fun _ _ _=>rfl) (fun r hr=>by rw[i2 k hne (by omega)];exact hr) (fun _ _=>rfl) (fun h=>h)
 have hti:tid≠id:=by omega
 refine⟨⟨h.below,h.old,fun k y hk=>?_,fun k g hk=>?_,fun k k' g hk hk'=>?_,fun k cs hk=>?_,fun k c hk=>?_,fun k cs hk hp'=>?_,fun k c hk hp'=>?_,fun k y hk=>(F0 h hpl hk).elim⟩,hN,hrel⟩
 ·by_cases h1:k=κ
  ·subst h1;rw[←hκ];exact Jw _ _ _
  ·by_cases h2:k=tid
   ·subst h2;rw[i1]at hk;cases hk
   ·rw[i2 k h1 h2]at hk;exact h.use k y hk
 ·obtain⟨_,h2⟩|⟨_,_,h2⟩:=hB k g hk
  ·exact h.own tid g h2
  ·exact h.own k g h2
 ·rcases hB k g hk with⟨g1,h2⟩|⟨g1,g2,h2⟩<;>obtain⟨g3,h4⟩|⟨g3,g4,h4⟩:=hB k' g hk'
  ·exact g1.trans g3.symm
  ·exact absurd (h.inj k' tid g h4 h2) g4
  ·exact absurd (h.inj k tid g h2 h4) g2
  ·exact h.inj k k' g h2 h4
 ·obtain⟨u,h1,_⟩:=iZ hk;exact h.ko k u h1
 ·rw[pB]at hk;split at hk
  ·cases hk
  ·simp only[ce]at hk;split at hk
   ·rename_i e0;subst e0;exact h.kr _ _ har
   ·exact h.kr k c hk
 ·obtain⟨u,h1,rfl⟩:=iZ hk;have hkκ:k≠κ:=fun e0=>by have:=C2 hpl h1;omega
  have hkt:k≠tid:=fun e0=>by subst e0;rw[i1]at hp';cases hp'
  rw[i2 k hkκ hkt]at hp'⊢;obtain⟨g,T,vs,c1,c2,c3⟩:=h.objs k u h1 hp';have hno:gC u=true:=by
   simp only[eY,Bool.and_eq_true,List.all_eq_true]at hnm;exact hnm.2 _ (ow h1)
  refine⟨g,T,vs,c1,c2,by rw[ln];exact c3.len,c3.one,fun q c y hc hy=>?_⟩;obtain⟨c',hc',rfl⟩:=lv hc;exact hrel (js hno q c' hc') (c3.rel q c' y hc' hy)
 ·rw[pB]at hk;split at hk
  ·cases hk
  ·rename_i ekt;simp only[ce]at hk;by_cases eki:k=id
   ·subst eki;rw[if_pos rfl]at hk;injection hk with hk;subst hk
    have hkκ:k≠κ:=fun e0=>by have:=pV hpl har;omega
    refine⟨v,xs,(i2 k hkκ ekt).trans e1,by simpa[uJ]using e2,F6 e3,e4,fun j' e' hj' i' c' hi'=>?_⟩;have hsz:e.length=a.sz:=e3 e (List.mem_of_getElem? hj);have hi1:i<a.sz:=by rw[←hsz];exact(List.getElem?_eq_some_iff.1 hi).1
    obtain⟨q1,q2,q3⟩|⟨hne,e'',q1,q2⟩:=EW hj' hi'
    ·subst q1;subst q2;subst q3;refine⟨X,hX,.inr (.inr ⟨htg,b.e,b.sz,b.l,bK (some X),rfl,by rw[hκ];exact i0,rfl,xs2,f2,f3,f4,fun j3 e3' hj3 i3 c3' hi3=>?_⟩)⟩;obtain⟨y,y1,y2⟩:=f5 j3 e3' hj3 i3 c3' hi3;exact⟨y,y1,hflat (y2.flat (by omega))⟩
    ·obtain⟨y,y1,y2⟩:=e5 j' e'' q1 i' c' q2;have hi2:i'<a.sz:=by rw[←e3 e'' (List.mem_of_getElem? q1)];exact(List.getElem?_eq_some_iff.1 q2).1
     exact⟨y,y1,hcell (l5 _ _) (fun e0=>by rw[←hκ]at e0;exact J0 hi1 hi2 hne (va e0).2) y2⟩
   ·rw[if_neg eki]at hk;have hkκ:k≠κ:=fun e0=>by have:=pV hpl hk;omega
    rw[i2 k hkκ ekt]at hp'⊢;obtain⟨v',xs',c1,c2,c3,c4,c5⟩:=h.arrs k c hk hp';refine⟨v',xs',c1,c2,c3,c4,fun j' e' hj' i' c' hi'=>?_⟩;obtain⟨y,y1,y2⟩:=c5 j' e' hj' i' c' hi';exact⟨y,y1,hcell (l5 _ _) (fun e0=>by rw[←hκ]at e0;exact eki (va e0).1) y2⟩
def AV.kv:AV→AV
 | .osl _ _ l=>.sl l
 | c=>c
def AV.xA:AV→Bool
 | .omp _=>false
 | _=>true
open Classical in
noncomputable def mM(ι:Env)(id:Nat):Env:=fun k=>if ∃q,k=nm id q then none else ι k
theorem HS.Bz{M:Nat→Prop}{w0:aF}{w:World}{ι:Env}{s:AS}(h:HS M w0 w ι s){id:Nat}{a:bo}(hpl:eP s=true)(hnm:eY s=true)
  (har:look id s.r=some a) (hno:∀e∈a.l,∀c∈e,c.xA=true) :
  HS M w0 w (mM ι id) ⟨s.t,s.o,aU id ⟨a.e,a.sz,a.l.map fun e=>e.map AV.kv⟩ s.r,s.u⟩ ∧
   (∀g,NN M (mM ι id) g→NN M ι g)∧(∀{c:AV} {y:Value},c.dD=true→Rel (NN M ι) w ι c y→Rel (NN M (mM ι id)) w (mM ι id) c y):=by
 generalize hι2:mM ι id=ι2;have i0:∀q,ι2 (nm id q)=none:=fun q=>by rw[←hι2];unfold mM;exact if_pos ⟨q,rfl⟩
 have i2:∀k,(∀q,k≠nm id q)→ι2 k=ι k:=fun k hk=>by rw[←hι2];unfold mM;exact if_neg (fun⟨q,e⟩=>hk q e)
 have iS:∀k y,ι2 k=some y→(∀q,k≠nm id q)∧ι k=some y:=fun k y hk=>by
  have hne:∀q,k≠nm id q:=fun q e=>by subst e;rw[i0]at hk;cases hk
  exact⟨hne,by rw[←i2 k hne];exact hk⟩
 have iB:∀k g,bK (ι2 k)=some g→(∀q,k≠nm id q)∧bK (ι k)=some g:=fun k g hk=>by
  have hne:∀q,k≠nm id q:=fun q e=>by subst e;rw[i0]at hk;cases hk
  exact⟨hne,by rw[←i2 k hne];exact hk⟩
 have low:∀k,k<c7→∀q,k≠nm id q:=fun k hk q e=>by have:=l5 id q;omega
 have hN:∀g,NN M ι2 g→NN M ι g:=fun g hg=>by
  rcases hg with h1|⟨k,hk⟩
  ·exact .inl h1
  ·exact .inr ⟨k,(iB k g hk).2⟩
 have hrel:∀{c:AV} {y:Value},c.dD=true→Rel (NN M ι) w ι c y→Rel (NN M ι2) w ι2 c y:=fun {c y} hc hcy =>
  (hcy.low (ι':=ι2) (fun k hk=>i2 k (low k hk)) hc).mono (Nat.le_refl _) (fun b _ hb=>hN b hb) (fun _ _ _=>rfl) (fun _ _ h=>h)
 have hflat:∀{c:AV} {y:Value},Rel (NN M ι) w bO c y→Rel (NN M ι2) w bO c y:=fun {c y} hcy=>hcy.mono (Nat.le_refl _) (fun b _ hb=>hN b hb) (fun _ _ _=>rfl) (fun _ _ h=>h);refine⟨⟨h.below,h.old,fun k y hk=>h.use k y (iS k y hk).2,fun k g hk=>h.own k g (iB k g hk).2,fun k k' g hk hk'=>h.inj k k' g (iB k g hk).2 (iB k' g hk').2,h.ko,fun k c hk=>?_,fun k cs hk hp'=>?_,fun k c hk hp'=>?_,fun k y hk=>(F0 h hpl hk).elim⟩,hN,hrel⟩
 ·simp only[ce]at hk;split at hk
  ·rename_i e0;subst e0;exact h.kr _ _ har
  ·exact h.kr k c hk
 ·rw[i2 k (low k (C2 hpl hk))]at hp'⊢;obtain⟨g,T,vs,c1,c2,c3⟩:=h.objs k cs hk hp';have hno:gC cs=true:=by
   simp only[eY,Bool.and_eq_true,List.all_eq_true]at hnm;exact hnm.2 _ (ow hk)
  exact⟨g,T,vs,c1,c2,c3.len,c3.one,fun q c y hc hy=>hrel (js hno q c hc) (c3.rel q c y hc hy)⟩
 ·simp only[ce]at hk;by_cases eki:k=id
  ·subst eki;rw[if_pos rfl]at hk;injection hk with hk;subst hk
   rw[i2 k (low k (pV hpl har))]at hp';obtain⟨v,xs,e1,e2,e3,e4,e5⟩:=h.arrs k a har hp';refine⟨v,xs,(i2 k (low k (pV hpl har))).trans e1,by simpa using e2,fun e he=>by obtain⟨e',h1,rfl⟩:=List.mem_map.1 he;rw[List.length_map];exact e3 e' h1,e4,fun j e hj i c hi=>?_⟩;rw[List.getElem?_map]at hj;cases hj1:a.l[j]? with
   | none=>rw[hj1]at hj;cases hj
   | some e' =>
    rw[hj1]at hj;injection hj with hj;subst hj
    rw[List.getElem?_map]at hi;cases hi1:e'[i]? with
    | none=>rw[hi1]at hi;cases hi
    | some c' =>
     rw[hi1]at hi;injection hi with hi;subst hi
     obtain⟨x,hx,hr⟩:=e5 j e' hj1 i c' hi1;refine⟨x,hx,.inl ?_⟩;rcases hr with hr|⟨_,m,_,e0,_⟩|⟨_,et,sz,l,r,e0,ho,hb,hrow⟩
     ·have:c'.kv=c':=by cases hr<;>rfl
      rw[this];exact hflat hr
     ·have:=hno e' (List.mem_of_getElem? hj1) c' (List.mem_of_getElem? hi1);rw[e0]at this;cases this
     ·subst e0;show Rel (NN M ι2) w bO (.sl l) x;obtain⟨ys,⟨hl,hz⟩,g3,g4,g5⟩:=hrow;obtain⟨hz,hn0⟩|⟨g,cap,cur,hg,_,hgw,hn,hcap,hsz,htk⟩:=hz
      ·subst hz;have:l=[]:=List.eq_nil_of_length_eq_zero hn0;rw[this];exact .sl0 _ _ _
      ·subst hg;have hbk:bK (ι (nm k (j*a.sz+i)))=some g:=by rw[ho,← hb];rfl
       refine .sl _ l g 0 _ sz (fun j i=>(ys[j*sz+i]?).getD (.bool true)) g3 ?_ (fun hb'=>?_) (fun j i=>?_) (fun j e he i x hx=>?_) (fun j e he i x hx=>?_) hn
       ·exact(h.own _ g hbk).2
       ·rcases hb' with hb'|⟨k',hb'⟩
        ·exact h.sep hb' hbk
        ·obtain⟨hne,hb'⟩:=iB k' g hb';exact hne _ (h.inj _ _ g hb' hbk)
       ·cases e:ys[j*sz+i]? with
        | none=>rfl
        | some v=>exact g4 v (List.mem_of_getElem? e)
       ·obtain⟨v,hv,_⟩:=g5 j e he i x hx;rw[cell_of_row _ _ _ _ et (0,0) hgw];have:cur.toList[j*sz+i]?=some v:=by
         rw[←htk]at hv;rw[List.getElem?_take]at hv;split at hv
         ·exact hv
         ·cases hv
        simp only[hv,Option.getD_some];rw[←Array.getElem?_toList,Nat.zero_add];exact this
       ·obtain⟨v,hv,hr⟩:=g5 j e he i x hx;simp only[hv,Option.getD_some];exact hflat hr
  ·rw[if_neg eki]at hk;rw[i2 k (low k (pV hpl hk))]at hp'⊢;obtain⟨v',xs',c1,c2,c3,c4,c5⟩:=h.arrs k c hk hp';refine⟨v',xs',c1,c2,c3,c4,fun j' e' hj' i' c' hi'=>?_⟩;obtain⟨y,y1,y2⟩:=c5 j' e' hj' i' c' hi';exact⟨y,y1,y2.mono (Nat.le_refl _) (fun b _ hb=>hN b hb) (fun _ _ _=>rfl) (fun r hr=>by rw[i2 _ (fun q e=>eki (va e).1)];exact hr) (fun _ _=>rfl) (fun h=>h)⟩
theorem Dd{s:AS}(h:eY s=true){k:Nat}{v:AV}(hk:look k s.t=some v):v.dD=true:=by
 simp only[eY,Bool.and_eq_true,List.all_eq_true]at h;exact h.1 _ (ow hk)
section
variable{cx:Cx}{Q:Exit→Act→World→Prop}{ks:List aq}{s:AS}
def zG(id j i tid d:Nat)(a:bo)(et:TypeId)(sz2:Nat)(l2:List (List AV))(x:Value)(s:AS):AS :=
 ⟨aU d (.lk tid x) s.t,s.o,aU tid ⟨et,sz2,l2⟩ (aU id ⟨a.e,a.sz,cU a.l j i (.vv x)⟩ s.r),tid::s.u⟩
theorem aR.out{A:Act}{w:World}{ι:Env}(h:aR cx s A w ι){id j i tid sz2 d:Nat}{a:bo}{e:List AV}{et:TypeId}{l2:List (List AV)}{c0:AV}(hlt:tid<c7)(hfr:has s.u tid=false)(hpl:eP s=true)(hnm:eY s=true)
  (har:look id s.r=some a) (hp:(ι id).isSome=true) (hj:a.l[j]?=some e) (hi:e[i]?=some (.osl et sz2 l2)) (hd:look d s.t=some c0) (hone:c0.o8=true) :
  ∃x,aR cx (zG id j i tid d a et sz2 l2 x s) A w (mq ι (nm id (j*a.sz+i)) tid x):=by
 obtain⟨x,_,_,h1,h2,h3⟩:=h.hs.out hlt hfr hpl hnm har hp hj hi;refine⟨x,⟨h1.below,h1.old,h1.use,h1.own,h1.inj,h1.ko,h1.kr,h1.objs,h1.arrs,h1.pin⟩,h.dfr,h.n,fun k v hk=>?_⟩;simp only[zG,ce]at hk;by_cases e0:k=d
 ·subst e0;rw[if_pos rfl]at hk;injection hk with hk;subst hk
  obtain⟨y,hy,hr⟩:=h.tmp k c0 hd;refine⟨y,hy,.lk _ _ _ _ ?_ (hr.one hone)⟩;show(if tid=_ then none else if tid=tid then some x else ι tid)=some x;rw[if_neg (by have:=l5 id (j*a.sz+i);omega),if_pos rfl]
 ·rw[if_neg e0]at hk;obtain⟨y,hy,hr⟩:=h.tmp k v hk;exact⟨y,hy,h3 (Dd hnm hk) hr⟩
def tH(cx:Cx)(s:AS)(id:Nat):Prop:=∀{A:Act} {w:World} {ι:Env},aR cx s A w ι→(ι id).isSome=true
theorem Te{id k:Nat}(hk:look k s.t=some (.ref id)):tH cx s id:=fun hs=>by
 obtain⟨y,_,hr⟩:=hs.tmp k _ hk;cases hr with
 | ref _ _ _ _ _ h=>rw[h];rfl
theorem ab8{id k o q off:Nat}{cs:List AV}(hk:look k s.t=some (.ptr o off))(ho:look o s.o=some cs)(hq:cs[q]?=some (.ref id)):tH cx s id:=fun {A w ι} hs=>by
 obtain⟨y,_,hr⟩:=hs.tmp k _ hk;have h1:(ι o).isSome=true:=by cases hr with|ptr _ _ _ _ h=>rw[h];rfl
 obtain⟨g,T,vs,e1,e2,e3⟩:=hs.hs.objs o cs ho h1;have hlt:q<vs.toList.length:=by rw[←e3.len];exact(List.getElem?_eq_some_iff.1 hq).1
 have:=e3.rel q _ _ hq (List.getElem?_eq_getElem hlt);generalize vs.toList[q]=X at this;cases this with
 | ref _ _ _ _ _ h=>rw[h];rfl
theorem SC{ex:Exit}(id j i tid d:Nat){sz2:Nat}{a:bo}{e:List AV}{et:TypeId}{l2:List (List AV)}{c0:AV}(hal:tH cx s id)(hj:a.l[j]?=some e)(hi:e[i]?=some (.osl et sz2 l2))
  (k:∀x,VE cx Q ks ex (zG id j i tid d a et sz2 l2 x s)) (har:look id s.r=some a:=by kernel_rfl) (hd:look d s.t=some c0:=by kernel_rfl) (hone:c0.o8=true:=by kernel_rfl)
  (hlt:Nat.ble (tid+1) c7=true:=by kernel_rfl) (hfr:has s.u tid=false:=by kernel_rfl) (hpl:eP s=true:=by kernel_rfl) (hnm:eY s=true:=by kernel_rfl):VE cx Q ks ex s:=fun A w ι hs=>by
 obtain⟨x,h⟩:=hs.out (Nat.le_of_ble_eq_true hlt) hfr hpl hnm har (hal hs) hj hi hd hone;exact k x A w _ h
def xq(id j i tid:Nat)(a b:bo)(s:AS):AS:=⟨cR tid s.t,dv tid s.o,era tid (aU id ⟨a.e,a.sz,cU a.l j i (.osl b.e b.sz b.l)⟩ s.r),s.u⟩
theorem aR.Ff{A:Act}{w:World}{ι:Env}(h:aR cx s A w ι){id j i tid d:Nat}{a b:bo}{e:List AV}{x:Value}(htg:TG≤id)(hlt:tid<TG)(hpl:eP s=true)(hnm:eY s=true)
  (har:look id s.r=some a) (hat:look tid s.r=some b) (hp:(ι id).isSome=true) (hj:a.l[j]?=some e) (hi:e[i]?=some (.vv x)) (hd:look d s.t=some (.lk tid x)):aR cx (xq id j i tid a b s) A w (ny ι (nm id (j*a.sz+i)) tid x):=by
 have hx:ι tid=some x:=by
  obtain⟨y,_,hr⟩:=h.tmp d _ hd;cases hr with
  | lk _ _ _ _ h _=>exact h
 obtain⟨h1,h2,h3⟩:=h.hs.Ff htg hlt hpl hnm har hat hp hj hi hx;refine⟨h1,h.dfr,h.n,fun k v hk=>?_⟩;obtain⟨u,hu,rfl⟩:=ro hk;obtain⟨y,hy,hr⟩:=h.tmp k u hu;exact⟨y,hy,h3 (Dd hnm hu) hr⟩
theorem IZ{all:Array Oper}{l:List Oper}(id j i tid d:Nat){a b:bo}{e:List AV}{x:Value}(hal:tH cx s id)(hj:a.l[j]?=some e)(hi:e[i]?=some (.vv x))(k:OT cx Q ks all l (xq id j i tid a b s))
  (har:look id s.r=some a:=by kernel_rfl) (hat:look tid s.r=some b:=by kernel_rfl) (hd:look d s.t=some (.lk tid x):=by kernel_rfl) (htg:Nat.ble TG id=true:=by kernel_rfl) (hlt:Nat.ble (tid+1) TG=true:=by kernel_rfl) (hpl:eP s=true:=by kernel_rfl) (hnm:eY s=true:=by kernel_rfl):OT cx Q ks all l s:=fun A w ι hs =>
 k A w _ (hs.Ff (Nat.le_of_ble_eq_true htg) (Nat.le_of_ble_eq_true hlt) hpl hnm har hat (hal hs) hj hi hd)
def yD(id:Nat)(a:bo)(s:AS):AS:=⟨s.t,s.o,aU id ⟨a.e,a.sz,a.l.map fun e=>e.map AV.kv⟩ s.r,s.u⟩
theorem aR.Bz{A:Act}{w:World}{ι:Env}(h:aR cx s A w ι){id:Nat}{a:bo}(hpl:eP s=true)(hnm:eY s=true)(har:look id s.r=some a)(hno:∀e∈a.l,∀c∈e,c.xA=true):aR cx (yD id a s) A w (mM ι id):=by
 obtain⟨h1,h2,h3⟩:=h.hs.Bz hpl hnm har hno;refine⟨h1,h.dfr,h.n,fun k v hk=>?_⟩;obtain⟨y,hy,hr⟩:=h.tmp k v hk;exact⟨y,hy,h3 (Dd hnm hk) hr⟩
theorem Sp{ex:Exit}(id:Nat){a:bo}(hno:∀e∈a.l,∀c∈e,c.xA=true)(k:VE cx Q ks ex (yD id a s))(har:look id s.r=some a:=by kernel_rfl)(hpl:eP s=true:=by kernel_rfl)(hnm:eY s=true:=by kernel_rfl):VE cx Q ks ex s:=fun A w ι hs =>
 k A w _ (hs.Bz hpl hnm har hno)
theorem acV{ex:Exit}(id nid:Nat){ar:bo}(hfl:∀e∈ar.l,∀c∈e,c.pX=true)(k:VE cx Q ks ex ⟨kI id nid s.t,lO id nid s.o,aU nid ar (era id s.r),nid::s.u⟩)(ha:look id s.r=some ar:=by kernel_rfl)(hn:has s.u nid=false:=by kernel_rfl)(hnp:s.u.contains (cW id)=false:=by kernel_rfl):VE cx Q ks ex s:=fun a w ι hs=>k a w _ (hs.L9 ha (fun _=>hfl) hn hnp)
def AV.oL(tid:Nat)(x:Value):AV→AV
 | .ref i=>if i=tid then .vv x else .ref i
 | c=>c
def AV.zw(tid:Nat)(x:Value):AV→AV
 | .agg cs=>.agg (cs.map (AV.oL tid x))
 | c=>c.oL tid x
theorem Rel.oL{N:Nat→Prop}{w:World}{ι:Env}{c:AV}{y:Value}(h:Rel N w ι c y){tid:Nat}{x:Value}(hx:ι tid=some x):Rel N w ι (c.oL tid x) y:=by
 cases h with
 | ref _ i A n c h =>
  simp only[AV.oL];split
  ·rename_i e;subst e;rw[hx]at h;injection h with h;subst h
   exact .vv _ _ rfl
  ·exact .ref _ _ _ _ _ h
 | int=>constructor
 | bool=>constructor
 | str=>constructor
 | nils=>constructor
 | sl0=>exact .sl0 _ _ _
 | sl _ l b o c sz val hz hb hn h1 hc hr hcap=>exact .sl _ l b o _ sz val hz hb hn h1 hc hr hcap
 | fn _ f bb ys hl hr=>exact .fn _ f bb ys hl hr
 | fno _ f bb ys hl hr=>exact .fno _ f bb ys hl hr
 | nilf=>constructor
 | nilp=>constructor
 | any _ _ h=>exact .any _ _ h
 | ptr _ _ _ _ h=>exact .ptr _ _ _ _ h
 | eptr _ _ _ _ _ _ n c h=>exact .eptr _ _ _ _ _ _ n c h
 | sref _ _ _ _ _ n c c' A B h hB=>exact .sref _ _ _ _ _ n c c' A B h hB
 | cptr _ cs b o val hb hn h1 hc hr=>exact .cptr _ cs b o val hb hn h1 hc hr
 | adr=>constructor
 | pp _ _ _ _ h=>exact .pp _ _ _ _ h
 | sit _ _ _ _ _ h hg hn hb=>exact .sit _ _ _ _ _ h hg hn hb
 | nilm=>constructor
 | vv _ _ h=>exact .vv _ _ h
 | lk _ _ _ _ h h1=>exact .lk _ _ _ _ h h1
 | mref _ _ _ _ v h h2=>exact .mref _ _ _ _ v h h2
 | agg _ cs vs hl h1 hr=>exact .agg _ cs vs hl h1 hr
 | tup _ cs vs hl hr=>exact .tup _ cs vs hl hr
theorem Rel.zw{N:Nat→Prop}{w:World}{ι:Env}{c:AV}{y:Value}(h:Rel N w ι c y){tid:Nat}{x:Value}(hx:ι tid=some x):Rel N w ι (c.zw tid x) y:=by
 cases c with
 | agg cs =>
  cases h with
  | agg _ _ vs hl h1 hr =>
   refine .agg _ _ vs (by rw[List.length_map];exact hl) h1 (fun i c v hc hv=>?_);rw[List.getElem?_map]at hc;cases hi:cs[i]? with
   | none=>rw[hi]at hc;cases hc
   | some c'=>rw[hi]at hc;injection hc with hc;subst hc;exact(hr i c' v hi hv).oL hx
 | _=>exact h.oL hx
theorem aR.slot{A:Act}{w:World}{ι:Env}(h:aR cx s A w ι){q:Nat}{c c':AV}(hq:look q s.t=some c)(hc:∀y,Rel (NN cx.M ι) w ι c y→Rel (NN cx.M ι) w ι c' y):aR cx { s with t:=aU q c' s.t } A w ι:=by
 refine⟨⟨h.hs.below,h.hs.old,h.hs.use,h.hs.own,h.hs.inj,h.hs.ko,h.hs.kr,h.hs.objs,h.hs.arrs,h.hs.pin⟩,h.dfr,h.n,fun k v hk=>?_⟩;simp only[ce]at hk;by_cases e:k=q
 ·subst e;rw[if_pos rfl]at hk;injection hk with hk;subst hk
  obtain⟨y,hy,hr⟩:=h.tmp k c hq;exact⟨y,hy,hc y hr⟩
 ·rw[if_neg e]at hk;exact h.tmp k v hk
theorem aR.GL{A:Act}{w:World}{ι:Env}(h:aR cx s A w ι){d tid:Nat}{x:Value}(hd:look d s.t=some (.lk tid x)):ι tid=some x:=by
 obtain⟨y,_,hr⟩:=h.tmp d _ hd;cases hr with
 | lk _ _ _ _ h _=>exact h
def ON(q tid:Nat)(x:Value)(c:AV)(s:AS):AS:={ s with t:=aU q (c.zw tid x) s.t }
theorem LG{all:Array Oper}{l:List Oper}(q d:Nat){tid:Nat}{x:Value}{c:AV}(k:OT cx Q ks all l (ON q tid x c s))(hq:look q s.t=some c:=by kernel_rfl)(hd:look d s.t=some (.lk tid x):=by kernel_rfl):OT cx Q ks all l s:=fun A w ι hs =>
 k A w ι (hs.slot hq (fun _ hy=>hy.zw (hs.GL hd)))
def ZD(q tid:Nat)(s:AS):AS:={ s with t:=aU q (.ref tid) s.t }
theorem W1{all:Array Oper}{l:List Oper}(q d:Nat){tid:Nat}{x:Value}{b:bo}(k:OT cx Q ks all l (ZD q tid s))(hq:look q s.t=some (.vv x):=by kernel_rfl)(hd:look d s.t=some (.lk tid x):=by kernel_rfl)(hb:look tid s.r=some b:=by kernel_rfl):OT cx Q ks all l s:=fun A w ι hs=>by
 have hx:=hs.GL hd;refine k A w ι (hs.slot hq (fun y hy=>?_));cases hy;obtain⟨v,xs,e1,e2,_⟩:=hs.hs.arrs tid b hb (by rw[hx];rfl);rw[hx]at e1;injection e1 with e1;subst e1
 obtain⟨A',m,c,rfl⟩:=On e2;exact .ref _ _ _ _ _ hx
theorem Me{all:Array Oper}{l:List Oper}(tid d:Nat){c0:AV}(hal:tH cx s tid)(k:∀x,OT cx Q ks all l { s with t:=aU d (.lk tid x) s.t })(hd:look d s.t=some c0:=by kernel_rfl)(hone:c0.o8=true:=by kernel_rfl):OT cx Q ks all l s:=fun A w ι hs=>by
 obtain⟨x,hx⟩:=Option.isSome_iff_exists.mp (hal hs);exact k x A w ι (hs.slot hd (fun y hy=>.lk _ _ _ _ hx (hy.one hone)))
end
def cc{α β:Type}(enc:α→List AV)(q:Nat)(ek:TypeId)(sk:Nat)(encK:β→List AV)(p:α×Option (List β)):List AV :=
 (enc p.1).set q (match p.2 with|some l=>.osl ek sk (l.map encK)|none=>.any)
theorem aah{α β:Type}[Inhabited α]{enc:α→List AV}{q:Nat}{ek:TypeId}{sk:Nat}{encK:β→List AV}{L:List (α×Option (List β))}{j sz:Nat}(hj:j<L.length)(hz:∀x,(enc x).length=sz)(hq:q<sz){l:List β}(hl:(L.getD j default).2=some l):
  (L.map (cc enc q ek sk encK))[j]?=some (cc enc q ek sk encK (L.getD j default))∧(cc enc q ek sk encK (L.getD j default))[q]?=some (.osl ek sk (l.map encK)):=by
 have e:L.getD j default=L[j]:=by simp[List.getD_eq_getElem?_getD,List.getElem?_eq_getElem hj]
 refine⟨by rw[List.getElem?_map,List.getElem?_eq_getElem hj,e];rfl,?_⟩;unfold cc;rw[List.getElem?_set,if_pos rfl,if_pos (by rw[hz];exact hq),hl]
theorem QS{α β:Type}[Inhabited α]{enc:α→List AV}{q:Nat}{ek:TypeId}{sk:Nat}{encK:β→List AV}{L:List (α×Option (List β))}{j:Nat}(hj:j<L.length)(l:List β)(c:AV):
  cU (cU (L.map (cc enc q ek sk encK)) j q c) j q (.osl ek sk (l.map encK))=(L.set j ((L.getD j default).1,some l)).map (cc enc q ek sk encK):=by
 have e:L.getD j default=L[j]:=by simp[List.getD_eq_getElem?_getD,List.getElem?_eq_getElem hj]
 unfold cU;have h1:(L.map (cc enc q ek sk encK)).getD j []=cc enc q ek sk encK L[j]:=by simp[List.getD_eq_getElem?_getD,List.getElem?_eq_getElem hj]
 rw[h1];have h2:((L.map (cc enc q ek sk encK)).set j ((cc enc q ek sk encK L[j]).set q c)).getD j []=(cc enc q ek sk encK L[j]).set q c:=by
  simp[List.getD_eq_getElem?_getD,hj]
 rw[h2,List.set_set,List.set_set,List.map_set,e];unfold cc;rw[List.set_set]
section
variable{P:Program}{n:Nat}{s:AS}{o:Oper}
theorem aad(i:Int)(T:TypeId)(x y:Operand)(d:Nat){id:Nat}{a:bo}{e:TypeId}{kd:IntKind}(hop:o.op=.indexAddr T x y)(hd:o.dst=some d)(hn:Nat.ble (d+1) n=true)(hx:s.ev x=some (.ref id))(hy:s.ev y=some (.int kd i))
  (hr:look id s.r=some a) (ha:lL P T=none) (ht:eX P T=some (e,a.sz)) (hb:aY i a.l.length=true):br P n s o=some (s.put (some d) (.eptr id a.sz i.toNat 0)):=by
 obtain⟨h0,h1⟩:=cj hb;have hdn:d<n:=Nat.le_of_ble_eq_true hn;unfold br;rw[if_pos (by rw[hd];simpa[cB]using hdn)];simp only[hop,hx,hy,pK,qL,if_pos h0,ha,ht,hr,hd,h1,and_self,if_true]
theorem X8(T:TypeId)(x:Operand)(d:Nat){id j off:Nat}{a:bo}{e:List AV}{v:AV}(hop:o.op=.load T x)(hd:o.dst=some d)(hn:Nat.ble (d+1) n=true)(hx:s.ev x=some (.eptr id a.sz j off))
  (hr:look id s.r=some a) (hj:a.l[j]?=some e) (htg:TG≤id) (hv:eZ P T ((e.drop off).map AV.kU)=some v):br P n s o=some (s.put (some d) v):=by
 have hdn:d<n:=Nat.le_of_ble_eq_true hn;have ht:¬ id<TG:=by omega
 unfold br;rw[if_pos (by rw[hd];simpa[cB]using hdn)];simp only[hop,hx,jW,AS.mem,hr,if_true,hj,ht,if_false,hd,hv]
theorem aal(T:TypeId)(x y:Operand){id j off:Nat}{a:bo}{e nv:List AV}{v:AV}(hop:o.op=.store T x y)(hd:o.dst=none)(hx:s.ev x=some (.eptr id a.sz j off))(hy:s.ev y=some v)
  (hr:look id s.r=some a) (hj:a.l[j]?=some e) (hv:gR v=some nv) (hz:b8 P T=some nv.length) (hl:off+nv.length≤e.length) (hu:cZ [] nv=true) :
  br P n s o=some { s with r:=aU id ⟨a.e,a.sz,a.l.set j (fg off nv e)⟩ s.r }:=by
 unfold br;rw[if_pos (by rw[hd];rfl)];simp only[hop,hd,hx,hy,nE,hr,hj,hv,hz,hl,hu,and_self,if_true]
theorem Yd(T:TypeId)(x y:Operand)(d:Nat){id bytes:Nat}{a:bo}{new:List (List AV)}(hop:o.op=.call ⟨.builtin .append,#[x,y],#[T,T]⟩)(hd:o.dst=some d)(hn:Nat.ble (d+1) n=true)
  (hx:s.ev x=some (.ref id)) (hy:s.ev y=some (.sl new)) (hr:look id s.r=some a) (ht:ja P T=some (a.e,a.sz,bytes)) (hz:new.all (fun e=>e.length == a.sz)=true) (hf:fits (a.l.length+new.length) bytes=true) (hnp:s.u.contains (cW id)=false) :
  br P n s o=some { t:=aU d (.ref id) (cR id s.t),o:=dv id s.o,r:=aU id ⟨a.e,a.sz,a.l++new⟩ s.r,u:=s.u }:=by
 have hdn:d<n:=Nat.le_of_ble_eq_true hn;obtain⟨f1,f2⟩:=D4 hf;unfold br;rw[if_pos (by rw[hd];simpa[cB]using hdn)];simp only[hop,hd,hx,hy,if_true,n8,ht,jB,hz,hr,hnp,f1,f2,and_self]
end
theorem Qv{l:List (List AV)}{j off:Nat}{c:AV}{e:List AV}(hj:l[j]?=some e)(ho:off<e.length):l.set j (fg off [c] e)=cU l j off c:=by
 have hjl:j<l.length:=(List.getElem?_eq_some_iff.1 hj).1;have he:l.getD j []=e:=by rw[List.getD_eq_getElem?_getD,hj];rfl
 unfold cU;rw[he];congr 1;unfold fg;simp only[List.length_cons,List.length_nil];rw[List.set_eq_take_append_cons_drop,if_pos ho,List.append_assoc];rfl
theorem aaM(l:List (List AV))(j i:Nat)(c c':AV):cU (cU l j i c) j i c'=cU l j i c':=by
 unfold cU;by_cases h:j<l.length
 ·have:(l.set j ((l.getD j []).set i c)).getD j []=(l.getD j []).set i c:=by simp[List.getD_eq_getElem?_getD,h]
  rw[this,List.set_set,List.set_set]
 ·have e1:∀x,l.set j x=l:=fun x=>List.set_eq_of_length_le (by omega);rw[e1,e1]
theorem Sr{l:List (List AV)}{j i:Nat}{c:AV}{e:List AV}(hj:l[j]?=some e):(cU l j i c)[j]?=some (e.set i c):=by
 have hjl:j<l.length:=(List.getElem?_eq_some_iff.1 hj).1;have he:l.getD j []=e:=by rw[List.getD_eq_getElem?_getD,hj];rfl
 unfold cU;rw[he,List.getElem?_set,if_pos rfl,if_pos hjl]
def yz(dl:Nat):List Oper→Bool
 | []=>true
 | o::r=>(match o.dst with|some d=>!Nat.beq d dl|none=>true)&&yz dl r
theorem GW{dl:Nat}:∀{l:List Oper},yz dl l=true→∀o∈l,o.dst≠some dl
 | [],_,o,ho=>by cases ho
 | o'::r,h,o,ho=>by
  simp only[yz,Bool.and_eq_true]at h;rcases List.mem_cons.1 ho with e|ho
  ·subst e;intro e;rw[e]at h;have:=h.1;simp at this
  ·exact GW h.2 o ho
section
variable{P:Program}{n:Nat}{s0:AS}{all:Array Oper}{K:Nat}{σs:List AS}{o:Oper}
theorem Zm(lo d dl tid:Nat){x:Value}{b:bo}(h:br P n (nth σs lo) o=some ((nth σs lo).put (some d) (.vv x)))(hd:o.dst=some d:=by kernel_rfl)(hv:look d (nth σs lo).t=some (.ref tid):=by kernel_rfl)(hne:Nat.beq dl d=false:=by kernel_rfl)(hl:look dl (nth σs lo).t=some (.lk tid x):=by kernel_rfl)
  (hb:look tid (nth σs lo).r=some b:=by kernel_rfl) (hno:yz dl all.toList=true:=by kernel_rfl) (hg:cw all (nth σs lo) o=true:=by kernel_rfl):eo P n s0 all K σs o (.c lo 1) :=
 ⟨⟨zQ hg,.inr (.inr ⟨d,dl,tid,x,b,hd,h,hv,fun e=>(by subst e;simp at hne),hl,hb,fun j o' hj=>GW hno o' (Array.mem_toList_iff.2 (Array.mem_of_getElem? hj))⟩)⟩,trivial⟩
end
section
variable{P:Program}{n:Nat}{s:AS}{o:Oper}{α β:Type}[Inhabited α]
theorem Z3(enc:α→List AV)(q:Nat)(ek:TypeId)(sk:Nat)(encK:β→List AV){L:List (α×Option (List β))}{j:Nat}(hj:j<L.length):(L.map (cc enc q ek sk encK))[j]?=some (cc enc q ek sk encK (L.getD j default)):=by
 have e:L.getD j default=L[j]:=by simp[List.getD_eq_getElem?_getD,List.getElem?_eq_getElem hj]
 rw[List.getElem?_map,List.getElem?_eq_getElem hj,e];rfl
end
section
variable{α β:Type}[Inhabited α]
theorem QJ(enc:α→List AV)(q:Nat)(ek:TypeId)(sk:Nat)(encK:β→List AV)(wk:α→List β→α)(hw:∀x l,(enc x).set q (.sl (l.map encK))=enc (wk x l))(hf:∀x,(enc x).map AV.kv=enc x)(L:List (α×Option (List β)))(hL:L.all (fun p=>p.2.isSome)=true):
  (L.map (cc enc q ek sk encK)).map (fun e=>e.map AV.kv)=(L.map fun p=>wk p.1 (p.2.getD [])).map enc:=by
 rw[List.map_map,List.map_map];refine List.map_congr_left (fun p hp=>?_);have:=List.all_eq_true.1 hL p hp;show(cc enc q ek sk encK p).map AV.kv=enc (wk p.1 (p.2.getD []));rw[←hw];unfold cc;rw[List.map_set,hf];cases h:p.2 with
 | none=>rw[h]at this;cases this
 | some l=>rfl
end
section
variable{α β:Type}[Inhabited α]
theorem Qb(enc:α→List AV)(q:Nat)(ek:TypeId)(sk:Nat)(encK:β→List AV)(L:List (α×Option (List β)))(x:α)(l:List β){cs:List AV}(h:cs.set q .any=(enc x).set q .any):
  cU (L.map (cc enc q ek sk encK)++[cs]) L.length q (.osl ek sk (l.map encK))=(L++[(x,some l)]).map (cc enc q ek sk encK):=by
 unfold cU;have e1:(L.map (cc enc q ek sk encK)++[cs]).getD L.length []=cs:=by simp[List.getD_eq_getElem?_getD]
 have e2:cs.set q (.osl ek sk (l.map encK))=(enc x).set q (.osl ek sk (l.map encK)):=by
  have:=congrArg (fun r=>List.set r q (AV.osl ek sk (l.map encK))) h;simpa[List.set_set]using this
 rw[e1,e2,List.map_append,List.set_append_right _ _ (by simp),List.length_map,Nat.sub_self];rfl
theorem Yy(enc:α→List AV)(q:Nat)(ek:TypeId)(sk:Nat)(encK:β→List AV)(L:List (α×Option (List β)))(cs:List AV):(L.map (cc enc q ek sk encK)++[cs])[L.length]?=some cs:=by simp
end
section
variable{cx:Cx}{Q:Exit→Act→World→Prop}{ks:List aq}{s:AS}
theorem HS.yr{M:Nat→Prop}{w0:aF}{w:World}{ι:Env}{s:AS}(h:HS M w0 w ι s){id j i:Nat}{a:bo}{e:List AV}{c:AV}(har:look id s.r=some a)(hj:a.l[j]?=some e)(hi:e[i]?=some c):HS M w0 w ι ⟨s.t,s.o,aU id ⟨a.e,a.sz,cU a.l j i .any⟩ s.r,s.u⟩:=by
 refine⟨h.below,h.old,h.use,h.own,h.inj,h.ko,fun k b hk=>?_,h.objs,fun k b hk hp=>?_,h.pin⟩
 ·simp only[ce]at hk;split at hk
  ·rename_i e0;subst e0;exact h.kr _ _ har
  ·exact h.kr k b hk
 ·simp only[ce]at hk;split at hk
  ·rename_i e0;subst e0;injection hk with hk;subst hk
   obtain⟨v,xs,e1,e2,e3,e4,e5⟩:=h.arrs k a har hp;refine⟨v,xs,e1,by simpa[uJ]using e2,F6 e3,e4,fun j' e' hj' i' c' hi'=>?_⟩;obtain⟨q1,q2,q3⟩|⟨hne,e'',q1,q2⟩:=EW hj' hi'
   ·subst q1;subst q2;subst q3;obtain⟨X,hX,_⟩:=e5 j' e hj i' c hi;exact⟨X,hX,.inl (.any _ _ (e4 X (List.mem_of_getElem? hX)))⟩
   ·exact e5 j' e'' q1 i' c' q2
  ·exact h.arrs k b hk hp
def UX(id j i:Nat)(a:bo)(s:AS):AS:=⟨s.t,s.o,aU id ⟨a.e,a.sz,cU a.l j i .any⟩ s.r,s.u⟩
theorem aR.yr{A:Act}{w:World}{ι:Env}(h:aR cx s A w ι){id j i:Nat}{a:bo}{e:List AV}{c:AV}(har:look id s.r=some a)(hj:a.l[j]?=some e)(hi:e[i]?=some c):aR cx (UX id j i a s) A w ι :=
 ⟨h.hs.yr har hj hi,h.dfr,h.n,h.tmp⟩
end
end Go.Proofs.YtnpmlepplfaijaaGreat

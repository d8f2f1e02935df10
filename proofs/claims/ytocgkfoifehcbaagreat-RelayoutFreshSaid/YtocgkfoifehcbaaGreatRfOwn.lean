/- Own slices: laid down as values for good; nil as an own slice. No program in sight. -/
import Derived.Test.YtocgkfoifehcbaaGreatRfCut
namespace Go.Proofs.YtocgkfoifehcbaaGreat
set_option linter.all false
open Go.RowKit
mutual
def AV.bT(id:Nat)(l:List (List AV)):AV→AV
 | .ref i=>if i=id then .sl l else .ref i
 | .eptr i sz j off=>if i=id then .any else .eptr i sz j off
 | .sref i sz off m=>if i=id then .any else .sref i sz off m
 | .ptr i off=>if i=id then .any else .ptr i off
 | .pp i g off=>if i=id then .any else .pp i g off
 | .sit i g s p=>if i=id then .any else .sit i g s p
 | .adr g off=>.adr g off
 | .agg cs=>.agg (f9 id l cs)
 | .tup cs=>.tup (f9 id l cs)
 | .int k n=>.int k n
 | .bool b=>.bool b
 | .str s=>.str s
 | .nils=>.nils
 | .sl m=>.sl m
 | .nilm=>.nilm
 | .mref _ _=>.any
 | .omp m=>.omp m
 | .osl e sz l=>.osl e sz l
 | .vv x=>.vv x
 | .lk i x=>if i=id then .any else .lk i x
 | .fn f c=>.fn f c
 | .fno f c=>.fno f (f9 id l c)
 | .nilf=>.nilf
 | .nilp=>.nilp
 | .cptr cs=>.cptr cs
 | .any=>.any
def f9(id:Nat)(l:List (List AV)):List AV→List AV
 | []=>[]
 | c::r=>c.bT id l::f9 id l r
end
theorem sy{id:Nat}{m:List (List AV)}:∀{l:List AV} {i:Nat} {x:AV},(f9 id m l)[i]?=some x→∃y,l[i]?=some y∧x=y.bT id m
 | [],i,x,h=>by simp[f9]at h
 | c::r,0,x,h=>by simp[f9]at h;exact⟨c,by simp,h.symm⟩
 | c::r,i+1,x,h=>by simp[f9]at h;obtain⟨y,h1,h2⟩:=sy h;exact⟨y,by simpa using h1,h2⟩
theorem sJ{id:Nat}{m:List (List AV)}:∀(l:List AV),(f9 id m l).length=l.length
 | []=>rfl
 | c::r=>by simp[f9,sJ r]
theorem Rel.bT{N N':Nat→Prop}{w:World}{ι:Env}{v:AV}{x:Value}(h:Rel N w ι v x){id:Nat}{m:List (List AV)}{ι':Env}(hN:∀b,N' b→N b):
  (∀i,i≠id→ι' i=ι i)→(∀A n c,ι id=some (.slice A n c)→Rel N' w ι' (.sl m) (.slice A n c))→Rel N' w ι' (v.bT id m) x:=by
 have hm:∀{u:AV} {y:Value},Rel N w bn u y→Rel N' w bn u y:=fun hh=>hh.mono (Nat.le_refl _) (fun b _ hb=>hN b hb) (fun _ _ _=>rfl) (fun _ _ h=>h)
 induction h with
 | int ι k n=>intro _ _;simp only[AV.bT];exact .int _ _ _
 | bool ι b=>intro _ _;simp only[AV.bT];exact .bool _ _
 | str ι s=>intro _ _;simp only[AV.bT];exact .str _ _
 | nils ι=>intro _ _;simp only[AV.bT];exact .nils _
 | nilm ι=>intro _ _;simp only[AV.bT];exact .nilm _
 | mref ι i q r v h h2=>intro _ _;simp only[AV.bT];exact .any _ _ rfl
 | sl0 ι A c=>intro _ _;simp only[AV.bT];exact .sl0 _ _ _
 | sl ι l b o c sz val hz hb hn h1 hc hr hcap ih=>intro _ _;simp only[AV.bT];exact .sl _ l b o c sz val hz hb (fun h=>hn (hN b h)) h1 hc (fun j e he i x hx=>hm (hr j e he i x hx)) hcap
 | fn ι f aP ys hl hr ih=>intro _ _;simp only[AV.bT];exact .fn _ f aP ys hl (fun i c y h1 h2=>hm (hr i c y h1 h2))
 | fno ι f aP ys hl hr ih =>
  intro hι hs;simp only[AV.bT];exact .fno _ _ _ ys (by rw[sJ];exact hl) (fun i x v hx hv=>by
   obtain⟨y,hy,rfl⟩:=sy hx;exact ih i y v hy hv hι hs)
 | nilf ι=>intro _ _;simp only[AV.bT];exact .nilf _
 | nilp ι=>intro _ _;simp only[AV.bT];exact .nilp _
 | any ι x h=>intro _ _;simp only[AV.bT];exact .any _ _ h
 | ptr ι i off g h =>
  intro hι _;simp only[AV.bT];split
  ·exact .any _ _ rfl
  ·rename_i hne;exact .ptr _ _ _ _ ((hι i hne).trans h)
 | eptr ι i sz j off g n c h =>
  intro hι _;simp only[AV.bT];split
  ·exact .any _ _ rfl
  ·rename_i hne;exact .eptr _ _ _ _ _ _ n c ((hι i hne).trans h)
 | sref ι i sz off m n c c' A B h hB =>
  intro hι _;simp only[AV.bT];split
  ·exact .any _ _ rfl
  ·rename_i hne;exact .sref _ _ _ _ _ n c c' A B ((hι i hne).trans h) hB
 | adr ι g off=>intro _ _;simp only[AV.bT];exact .adr _ _ _
 | vv ι x h=>intro _ _;simp only[AV.bT];exact .vv _ _ h
 | lk ι i v x h h1 =>
  intro hι _;simp only[AV.bT];split
  ·exact .any _ _ h1
  ·rename_i hne;exact .lk _ _ _ _ ((hι i hne).trans h) h1
 | pp ι i g off h =>
  intro hι _;simp only[AV.bT];split
  ·exact .any _ _ rfl
  ·rename_i hne;exact .pp _ _ _ _ ((hι i hne).trans h)
 | sit ι i g s pos h hg hn hb =>
  intro hι _;simp only[AV.bT];split
  ·exact .any _ _ rfl
  ·rename_i hne;exact .sit _ _ _ _ _ ((hι i hne).trans h) hg (fun h=>hn (hN g h)) hb
 | cptr ι cs b o val hb hn h1 hc hr ih=>intro _ _;simp only[AV.bT];exact .cptr _ cs b o val hb (fun h=>hn (hN b h)) h1 hc (fun i x hx=>hm (hr i x hx))
 | ref ι i A n c h =>
  intro hι hs;simp only[AV.bT];split
  ·rename_i e;subst e;exact hs _ _ _ h
  ·rename_i hne;exact .ref _ _ _ _ _ ((hι i hne).trans h)
 | agg ι cs vs hl h1 hr ih =>
  intro hι hs;simp only[AV.bT];exact .agg _ _ vs (by rw[sJ];exact hl) h1 (fun i x v hx hv=>by
   obtain⟨y,hy,rfl⟩:=sy hx;exact ih i y v hy hv hι hs)
 | tup ι cs vs hl hr ih =>
  intro hι hs;simp only[AV.bT];exact .tup _ _ vs (by rw[sJ];exact hl) (fun i x v hx hv=>by
   obtain⟨y,hy,rfl⟩:=sy hx;exact ih i y v hy hv hι hs)
theorem Cells.bT{N N':Nat→Prop}{w:World}{ι ι':Env}{cs:List AV}{vs:List Value}(h:Cells N w ι cs vs){id:Nat}{m:List (List AV)}(hN:∀b,N' b→N b)
  (hι:∀i,i≠id→ι' i=ι i) (hs:∀A n c,ι id=some (.slice A n c)→Rel N' w ι' (.sl m) (.slice A n c)):Cells N' w ι' (f9 id m cs) vs :=
 ⟨by rw[sJ];exact h.len,h.one,fun i x v hx hv=>by
  obtain⟨y,hy,rfl⟩:=sy hx;exact(h.rel i y v hy hv).bT hN hι hs⟩
def uV(id:Nat)(m:List (List AV)):List (Nat×AV)→List (Nat×AV)
 | []=>[]
 | (k,v)::r=>(k,v.bT id m)::uV id m r
def uA(id:Nat)(m:List (List AV)):List (Nat×List AV)→List (Nat×List AV)
 | []=>[]
 | (k,v)::r=>(k,f9 id m v)::uA id m r
theorem IQ{id:Nat}{m:List (List AV)}:∀{l:List (Nat×AV)} {k:Nat} {v:AV},look k (uV id m l)=some v→∃u,look k l=some u∧v=u.bT id m
 | [],k,v,h=>by cases h
 | (j,x)::r,k,v,h=>by
  simp only[uV,look]at h⊢;split at h
  ·rename_i e;injection h with h;exact⟨x,by rw[if_pos e],h.symm⟩
  ·rename_i e;rw[if_neg e];exact IQ h
theorem Aj{id:Nat}{m:List (List AV)}:∀{l:List (Nat×List AV)} {k:Nat} {v:List AV},look k (uA id m l)=some v→∃u,look k l=some u∧v=f9 id m u
 | [],k,v,h=>by cases h
 | (j,x)::r,k,v,h=>by
  simp only[uA,look]at h⊢;split at h
  ·rename_i e;injection h with h;exact⟨x,by rw[if_pos e],h.symm⟩
  ·rename_i e;rw[if_neg e];exact Aj h
def AS.bT(s:AS)(id:Nat)(l:List (List AV)):AS:=⟨uV id l s.t,uA id l s.o,s.r,s.u⟩
def dX(ι:Env)(id:Nat):Env:=fun i=>if i=id then none else ι i
theorem eu(ι:Env){id i:Nat}(h:i≠id):dX ι id i=ι i:=by simp[dX,h]
theorem jP{ι:Env}{id i:Nat}{y:Value}(h:dX ι id i=some y):i≠id∧ι i=some y:=by
 unfold dX at h;split at h
 ·cases h
 ·rename_i e;exact⟨e,h⟩
theorem gy{ι:Env}{id i g:Nat}(h:bm (dX ι id i)=some g):i≠id∧bm (ι i)=some g:=by
 unfold dX at h;split at h
 ·cases h
 ·rename_i e;exact⟨e,h⟩
theorem gU{M:Nat→Prop}{ι:Env}{id:Nat}:∀b,NN M (dX ι id) b→NN M ι b:=fun b hb=>by
 rcases hb with hb|⟨i,hb⟩
 ·exact .inl hb
 ·exact .inr ⟨i,(gy hb).2⟩
theorem HS.wa{M:Nat→Prop}{w0:aE}{w:World}{ι:Env}{s:AS}(h:HS M w0 w ι s){k id:Nat}{r:Option Nat}{ar:br}(ha:look id s.r=some ar)(hk:ι k=some (.map r)):k≠id:=fun e=>by
 subst e;obtain⟨v,xs,e1,e2,_⟩:=h.arrs k ar ha (by rw[hk];rfl);rw[hk]at e1;injection e1 with e1;subst e1
 rcases e2.2 with⟨hv,_⟩|⟨_,_,_,hv,_⟩<;>cases hv
theorem HS.oh{M:Nat→Prop}{w0:aE}{w:World}{ι:Env}{s:AS}(h:HS M w0 w ι s){id:Nat}(htg:id<TG){ar:br}(ha:look id s.r=some ar)(A:Option Addr)(n c:Nat)(hv:ι id=some (.slice A n c))(ι':Env):
  Rel (NN M (dX ι id)) w ι' (.sl ar.l) (.slice A n c):=by
 obtain⟨v,xs,e1,e2,e3,e4,e5⟩:=h.arrs id ar ha (by rw[hv];rfl);rw[hv]at e1;injection e1 with e1;subst e1
 obtain⟨hl,hz|⟨g,cap,cur,hg,hb,hgw,hn,hcap,hsz,htk⟩⟩:=e2
 ·obtain⟨hz,hn0⟩:=hz;injection hz with h1 h2 h3;subst h2
  have:ar.l=[]:=List.eq_nil_of_length_eq_zero hn0;rw[this];exact .sl0 _ _ _
 ·injection hg with h1 h2 h3;subst h1 h2 h3
  refine .sl _ ar.l g 0 _ ar.sz (fun j i=>(xs[j*ar.sz+i]?).getD (.bool true)) e3 ?_ (fun hb'=>?_) (fun j i=>?_) (fun j e he i x hx=>?_) (fun j e he i x hx=>?_) hn
  ·exact(h.own id g (by rw[hv];rfl)).2
  ·rcases hb' with hb'|⟨i,hb'⟩
   ·exact h.sep hb' (by rw[hv];rfl)
   ·obtain⟨hne,hb'⟩:=gy hb';exact hne (h.inj i id g hb' (by rw[hv];rfl))
  ·cases e:xs[j*ar.sz+i]? with
   | none=>rfl
   | some v=>exact e4 v (List.mem_of_getElem? e)
  ·obtain⟨v,hv,_⟩:=e5 j e he i x hx;rw[cell_of_row _ _ _ _ ar.e (0,0) hgw];have:cur.toList[j*ar.sz+i]?=some v:=by
    rw[←htk]at hv;rw[List.getElem?_take]at hv;split at hv
    ·exact hv
    ·cases hv
   simp only[hv,Option.getD_some];rw[←Array.getElem?_toList,Nat.zero_add];exact this
  ·obtain⟨v,hv,hr⟩:=e5 j e he i x hx;simp only[hv,Option.getD_some];exact(hr.flat (by omega)).mono (Nat.le_refl _) (fun b _ hb=>gU b hb) (fun _ _ _=>rfl) (fun _ _ h=>h)
theorem HS.bT{M:Nat→Prop}{w0:aE}{w:World}{ι:Env}{s:AS}(h:HS M w0 w ι s){id:Nat}(htg:id<TG){ar:br}(ha:look id s.r=some ar)(hnp:w0.pv id=none):HS M w0 w (dX ι id) (s.bT id ar.l):=by
 refine⟨h.below,h.old,fun i y hy=>h.use i y (jP hy).2,fun i g hg=>h.own i g (gy hg).2,fun i i' g hg hg'=>h.inj i i' g (gy hg).2 (gy hg').2,fun i cs hi=>?_,h.kr,fun i cs hi hp=>?_,fun i a hi hp=>?_,fun i y hp=>(by
  have e:i≠id:=fun e=>by subst e;rw[hnp]at hp;cases hp
  exact⟨(eu ι e).trans (h.pin i y hp).1,(h.pin i y hp).2⟩)⟩
 ·obtain⟨u,hu,_⟩:=Aj hi;exact h.ko i u hu
 ·obtain⟨u,hu,rfl⟩:=Aj hi;obtain⟨y,hy⟩:=Option.isSome_iff_exists.mp hp;obtain⟨hne,hy⟩:=jP hy;obtain⟨g,T,vs,e1,e2,e3⟩:=h.objs i u hu (by rw[hy];rfl);exact⟨g,T,vs,(eu ι hne).trans e1,e2,e3.bT gU (fun _ h=>eu ι h) (fun A n c hv=>h.oh htg ha A n c hv _)⟩
 ·obtain⟨y,hy⟩:=Option.isSome_iff_exists.mp hp;obtain⟨hne,hy⟩:=jP hy;obtain⟨v,xs,e1,e2,e3,e4,e5⟩:=h.arrs i a hi (by rw[hy];rfl);refine⟨v,xs,(eu ι hne).trans e1,e2,e3,e4,fun j e he k c hc=>?_⟩;obtain⟨x,hx,hr⟩:=e5 j e he k c hc;exact⟨x,hx,hr.mono (Nat.le_refl _) (fun b _ hb=>gU b hb) (fun _ _ _=>rfl) (fun r h'=>(eu ι (h.wa ha h')).trans h') (fun _ _=>rfl) (fun h=>h)⟩
section
variable{cx:Cx}{Q:Exit→Act→World→Prop}{ks:List aq}{s:AS}
theorem aN.bT{a:Act}{w:World}{ι:Env}(h:aN cx s a w ι){id:Nat}(htg:id<TG){ar:br}(ha:look id s.r=some ar)(hnp:cx.w0.pv id=none):aN cx (s.bT id ar.l) a w (dX ι id) :=
 ⟨h.hs.bT htg ha hnp,h.dfr,h.n,fun k v hk=>by
  obtain⟨u,hu,rfl⟩:=IQ hk;obtain⟨x,hx,hr⟩:=h.tmp k u hu;exact⟨x,hx,hr.bT gU (fun _ h=>eu ι h) (fun A n c hv=>h.hs.oh htg ha A n c hv _)⟩⟩
theorem KI{e:Exit}(id:Nat){ar:br}(htg:id<TG)(ha:look id s.r=some ar)(hnp:s.u.contains (cK id)=false)(h:VE cx Q ks e (s.bT id ar.l)):VE cx Q ks e s:=fun a w ι hs=>h a w _ (hs.bT htg ha (hs.hs.np hnp))
theorem Lb{all:Array Oper}{l:List Oper}(id:Nat){ar:br}(htg:id<TG)(ha:look id s.r=some ar)(hnp:s.u.contains (cK id)=false)(h:OT cx Q ks all l (s.bT id ar.l)):OT cx Q ks all l s:=fun a w ι hs=>h a w _ (hs.bT htg ha (hs.hs.np hnp))
theorem aN.own{a:Act}{w:World}{ι:Env}(h:aN cx s a w ι){d k:Nat}(e:TypeId)(sz:Nat)(hd:has s.u d=false)(hk:look k s.t=some .nils):
  aN cx ⟨aZ k (.ref d) s.t,s.o,aZ d ⟨e,sz,[]⟩ s.r,d::s.u⟩ a w (ext ι d (.slice none 0 0)):=by
 obtain⟨h1,h2⟩:=h.hs.nil hd e sz;have hn:=h.hs.free hd;refine⟨⟨h1.below,h1.old,h1.use,h1.own,h1.inj,h1.ko,h1.kr,h1.objs,h1.arrs,h1.pin⟩,h.dfr,h.n,fun j v hj=>?_⟩;simp only[ca]at hj;split at hj
 ·rename_i e;subst e;injection hj with hj;subst hj
  obtain⟨x,hx,hr⟩:=h.tmp j _ hk;cases hr;exact⟨_,hx,.ref _ _ _ _ _ (cr _ _ _)⟩
 ·obtain⟨x,hx,hr⟩:=h.tmp j v hj;exact⟨x,hx,hr.mono (Nat.le_refl _) (fun b _ hb=>h2 b hb) (fun _ _ _=>rfl) (dQ hn _)⟩
theorem Qv{e:Exit}(d k:Nat)(et:TypeId)(sz:Nat)(hd:has s.u d=false)(hk:look k s.t=some .nils)(h:VE cx Q ks e ⟨aZ k (.ref d) s.t,s.o,aZ d ⟨et,sz,[]⟩ s.r,d::s.u⟩):VE cx Q ks e s:=fun a w ι hs=>h a w _ (hs.own et sz hd hk)
theorem aN.FL{a:Act}{w:World}{ι:Env}(h:aN cx s a w ι){d i n:Nat}{cs:List AV}(e:TypeId)(sz:Nat)(hd:has s.u d=false)(hi:look i s.o=some cs)(hk:cs[n]?=some .nils):
  aN cx ⟨s.t,aZ i (cs.set n (.ref d)) s.o,aZ d ⟨e,sz,[]⟩ s.r,d::s.u⟩ a w (ext ι d (.slice none 0 0)):=by
 obtain⟨h1,h2⟩:=h.hs.nil hd e sz;have hn:=h.hs.free hd;refine⟨⟨h1.below,h1.old,h1.use,h1.own,h1.inj,fun j c hj=>?_,h1.kr,fun j c hj hp=>?_,h1.arrs,h1.pin⟩,h.dfr,h.n,fun j v hj=>?_⟩
 ·simp only[ca]at hj;split at hj
  ·rename_i e;subst e;exact h1.ko j cs hi
  ·exact h1.ko j c hj
 ·simp only[ca]at hj;split at hj
  ·rename_i e;subst e;injection hj with hj;subst hj
   obtain⟨g,T,vs,e1,e2,e3⟩:=h1.objs j cs hi hp;refine⟨g,T,vs,e1,e2,⟨by rw[List.length_set];exact e3.len,e3.one,fun m x v hx hv=>?_⟩⟩;rw[List.getElem?_set]at hx;split at hx
   ·rename_i e;subst e;split at hx
    ·injection hx with hx;subst hx
     have hr:=e3.rel n .nils v hk hv;cases hr;exact .ref _ _ _ _ _ (cr _ _ _)
    ·cases hx
   ·exact e3.rel m x v hx hv
  ·exact h1.objs j c hj hp
 ·obtain⟨x,hx,hr⟩:=h.tmp j v hj;exact⟨x,hx,hr.mono (Nat.le_refl _) (fun b _ hb=>h2 b hb) (fun _ _ _=>rfl) (dQ hn _)⟩
theorem Vz{e:Exit}(d i n:Nat)(et:TypeId)(sz:Nat){cs:List AV}(hd:has s.u d=false)(hi:look i s.o=some cs)(hk:cs[n]?=some .nils)(h:VE cx Q ks e ⟨s.t,aZ i (cs.set n (.ref d)) s.o,aZ d ⟨et,sz,[]⟩ s.r,d::s.u⟩):VE cx Q ks e s:=fun a w ι hs=>h a w _ (hs.FL et sz hd hi hk)
theorem VF{all:Array Oper}{l:List Oper}(d i n:Nat)(et:TypeId)(sz:Nat){cs:List AV}(hd:has s.u d=false)(hi:look i s.o=some cs)(hk:cs[n]?=some .nils)(h:OT cx Q ks all l ⟨s.t,aZ i (cs.set n (.ref d)) s.o,aZ d ⟨et,sz,[]⟩ s.r,d::s.u⟩):OT cx Q ks all l s:=fun a w ι hs=>h a w _ (hs.FL et sz hd hi hk)
end
end Go.Proofs.YtocgkfoifehcbaaGreat

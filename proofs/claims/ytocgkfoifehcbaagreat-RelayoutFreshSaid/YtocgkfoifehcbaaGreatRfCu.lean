/- An append of a part of an own slice to its beginning: elements are cut out; an own slice is shortened. No program in sight. -/
import Derived.Test.YtocgkfoifehcbaaGreatRfVy
namespace Go.Proofs.YtocgkfoifehcbaaGreat
set_option linter.all false
open Go.RowKit
theorem HS.xl{M:Nat→Prop}{w0:aE}{w:World}{ι:Env}{s:AS}(h:HS M w0 w ι s){id g n c k:Nat}{ar:br}(hnp:w0.pv id=none)(htg:id<TG)(har:look id s.r=some ar)(hι:ι id=some (.slice (some ⟨g,0,none⟩) n c))(hk:k≤ar.l.length):
  HS M w0 w (rep ι id (.slice (some ⟨g,0,none⟩) k c)) { t:=cQ id s.t,o:=dJ id s.o,r:=aZ id { ar with l:=ar.l.take k } s.r,u:=s.u }∧(∀b,NN M (rep ι id (.slice (some ⟨g,0,none⟩) k c)) b→NN M ι b):=by
 generalize hv':Value.slice (some ⟨g,0,none⟩) k c=v';have hbv:bm (some v')=bm (ι id):=by rw[hι,← hv'];rfl
 have hrep:∀i,i≠id→rep ι id v' i=ι i:=fun i hi=>oH _ _ hi;have hbk:∀i,bm (rep ι id v' i)=bm (ι i):=fun i=>by
  by_cases e:i=id
  ·subst e;rw[im,hbv]
  ·rw[hrep i e]
 have hN:∀b,NN M (rep ι id v') b→NN M ι b:=fun b hb=>by
  rcases hb with hb|⟨i,hb⟩
  ·exact .inl hb
  ·exact .inr ⟨i,by rw[←hbk];exact hb⟩
 have ho:∀k r,ι k=some (.map r)→rep ι id v' k=some (.map r):=fun k r hk=>by
  rw[hrep];exact hk;intro e;subst e;rw[hι]at hk;cases hk
 refine⟨⟨h.below,h.old,fun i y hy=>?_,fun i g' hg'=>h.own i g' (by rw[←hbk];exact hg'),fun i i' g' h1 h2=>h.inj i i' g' (by rw[←hbk];exact h1) (by rw[←hbk];exact h2),fun i cs hi=>?_,fun i a hi=>?_,fun i cs hi hp=>?_,fun i a hi hp=>?_,fun i y hp=>(by
  have e:i≠id:=fun e=>by subst e;rw[hnp]at hp;cases hp
  exact⟨(hrep i e).trans (h.pin i y hp).1,(h.pin i y hp).2⟩)⟩,hN⟩
 ·by_cases e:i=id
  ·subst e;exact h.use i _ hι
  ·rw[hrep i e]at hy;exact h.use i y hy
 ·obtain⟨u,h1,_⟩:=gP hi;exact h.ko i u h1
 ·simp only[ca]at hi;by_cases e:i=id
  ·subst e;exact h.use i _ hι
  ·rw[if_neg e]at hi;exact h.kr i a hi
 ·obtain⟨u,h1,rfl⟩:=gP hi;have e:i≠id:=by
   rintro rfl
   obtain⟨g',T,vs,e1,_,_⟩:=h.objs i u h1 (by rw[hι];rfl);rw[hι]at e1;cases e1
  rw[hrep i e]at hp;obtain⟨g',T,vs,e1,e2,e3⟩:=h.objs i u h1 hp;refine⟨g',T,vs,(hrep i e).trans e1,e2,by rw[jj];exact e3.len,e3.one,fun j x v hx hv=>?_⟩;obtain⟨y,hy,rfl⟩:=jk hx;exact((e3.rel j y v hy hv).co hrep).mono (Nat.le_refl _) (fun b _ hb=>hN b hb) (fun _ _ _=>rfl) (fun _ _ h=>h)
 ·simp only[ca]at hi;by_cases e:i=id
  ·subst e;rw[if_pos rfl]at hi;injection hi with hi;subst hi
   obtain⟨v,xs,e1,e2,e3,e4,e5⟩:=h.arrs i ar har (by rw[hι];rfl);rw[hι]at e1;injection e1 with e1;subst e1
   obtain⟨hv,_⟩|⟨g1,cap,cur,hv,hb,hg,hle,hcap,hsize,htake⟩:=e2.2
   ·cases hv
   injection hv with hA hn hcc
   injection hA with hA;injection hA with hA;subst hA;subst hcc
   have hmul:k*ar.sz≤ar.l.length*ar.sz:=Nat.mul_le_mul_right _ hk;have hxl:=e2.1;have hlk:(ar.l.take k).length=k:=by rw[List.length_take];omega
   refine⟨v',xs.take (k*ar.sz),im _ _ _,⟨?_,.inr ⟨g,c,cur,?_,hb,hg,?_,hcap,hsize,?_⟩⟩,fun e he=>e3 e (List.mem_of_mem_take he),fun x hx=>e4 x (List.mem_of_mem_take hx),fun j e hj q c' hq=>?_⟩
   ·simp only[hlk];rw[List.length_take];omega
   ·simp only[hlk];rw[←hv']
   ·simp only[hlk];omega
   ·simp only[hlk];rw[←htake,List.take_take];congr 1;omega
   ·have hj':(ar.l.take k)[j]?=some e:=hj;rw[List.getElem?_take]at hj';split at hj'
    ·rename_i hjk;obtain⟨x,hx,hr⟩:=e5 j e hj' q c' hq;have hql:q<ar.sz:=by rw[←e3 e (List.mem_of_getElem? hj')];exact(List.getElem?_eq_some_iff.1 hq).1
     have hlt:j*ar.sz+q<k*ar.sz:=by
      have:(j+1)*ar.sz≤k*ar.sz:=Nat.mul_le_mul_right _ hjk;rw[Nat.add_mul,Nat.one_mul]at this;omega
     exact⟨x,by rw[List.getElem?_take,if_pos hlt];exact hx,.inl ((hr.flat (by omega)).mono (Nat.le_refl _) (fun b _ hb=>hN b hb) (fun _ _ _=>rfl) (fun _ _ h=>h))⟩
    ·cases hj'
  ·rw[if_neg e]at hi;rw[hrep i e]at hp;obtain⟨v1,xs1,e1,e2,e3,e4,e5⟩:=h.arrs i a hi hp;refine⟨v1,xs1,(hrep i e).trans e1,e2,e3,e4,fun j el hj q c' hq=>?_⟩;obtain⟨x,hx,hr⟩:=e5 j el hj q c' hq;exact⟨x,hx,hr.mono (Nat.le_refl _) (fun b _ hb=>hN b hb) (fun _ _ _=>rfl) (ho _) (fun _ _=>rfl) (fun h=>h)⟩
theorem aN.xl{cx:Cx}{s:AS}{a:Act}{w:World}{ι:Env}(h:aN cx s a w ι){id g n c k:Nat}{ar:br}(hnp:cx.w0.pv id=none)(htg:id<TG)(har:look id s.r=some ar)(hι:ι id=some (.slice (some ⟨g,0,none⟩) n c))(hk:k≤ar.l.length):
  aN cx { t:=cQ id s.t,o:=dJ id s.o,r:=aZ id { ar with l:=ar.l.take k } s.r,u:=s.u } a w (rep ι id (.slice (some ⟨g,0,none⟩) k c)):=by
 obtain⟨h1,h2⟩:=h.hs.xl hnp htg har hι hk;refine⟨h1,h.dfr,h.n,fun j v hj=>?_⟩;obtain⟨u,hu,rfl⟩:=lO hj;obtain⟨x,hx,hr⟩:=h.tmp j u hu;exact⟨x,hx,(hr.co (fun i hi=>oH _ _ hi)).mono (Nat.le_refl _) (fun b _ hb=>h2 b hb) (fun _ _ _=>rfl) (fun _ _ h=>h)⟩
theorem J3{α:Type}(xs:List α)(a b m:Nat)(h1:a≤b)(h2:b+m≤xs.length)(j:Nat):(xs.take a++(xs.drop b).take m++xs.drop (a+m))[j]?=if j<a then xs[j]? else if j<a+m then xs[b+(j-a)]? else xs[j]?:=by
 have l1:(xs.take a).length=a:=by rw[List.length_take];omega
 have l2:((xs.drop b).take m).length=m:=by rw[List.length_take,List.length_drop];omega
 by_cases hj:j<a
 ·rw[if_pos hj,List.append_assoc,List.getElem?_append_left (by omega),List.getElem?_take,if_pos hj]
 ·rw[if_neg hj];by_cases hj2:j<a+m
  ·rw[if_pos hj2,List.getElem?_append_left (by rw[List.length_append];omega),List.getElem?_append_right (by omega),l1,List.getElem?_take,if_pos (by omega),List.getElem?_drop]
  ·rw[if_neg hj2,List.getElem?_append_right (by rw[List.length_append];omega),List.length_append,l1,l2,List.getElem?_drop];congr 1;omega
theorem uu{α:Type}(xs:List α)(a b m:Nat)(h1:a≤b)(h2:b+m≤xs.length):(xs.take a++(xs.drop b).take m++xs.drop (a+m)).length=xs.length:=by
 simp only[List.length_append,List.length_take,List.length_drop];omega
section
variable{cx:Cx}{Q:Exit→Act→World→Prop}{ks:List aq}{s:AS}{all:Array Oper}{f:Func}{p:List Nat}{i:Nat}{α:Type}
theorem KW{a:Act}{w:World}{ι:Env}(hs:aN cx s a w ι){id:Nat}{et:TypeId}{sz m off m2 bytes:Nat}{l:List (List AV)}{T ty:TypeId}{X Y:Value}(htg:id<TG)(hnp:cx.w0.pv id=none)(hX:Rel (NN cx.M ι) w ι (.sref id sz 0 m) X)(hY:Rel (NN cx.M ι) w ι (.sref id sz off m2) Y)
  (hr:look id s.r=some ⟨et,sz,l⟩) (ht:gZ cx.P T=some (et,sz,bytes)) (h1:1≤m) (h2:m≤off) (h3:off+m2≤l.length) :
  ∃x w' ι',(Builtin.append_ #[T,T] ty #[X,Y]).run cx.P w=.ok x w'∧Rel (NN cx.M ι') w' ι' (.ref id) x ∧
   aN cx { t:=cQ id s.t,o:=dJ id s.o,r:=aZ id ⟨et,sz,l.take m++(l.drop off).take m2⟩ s.r,u:=s.u } a w' ι':=by
 obtain⟨e,it,z,ht1,ht2,ht3,ht4,ht5⟩:∃e it z,cx.P.underlying T=some (.slice e)∧cx.P.info? e=some it∧e=et∧it.size=sz∧z=():=by
  unfold gZ at ht;split at ht
  ·rename_i e hu;split at ht
   ·rename_i it hin;split at ht
    ·split at ht
     ·injection ht with ht;injection ht with e1 ht;injection ht with e2 e3
      exact⟨e,it,(),hu,hin,e1,e2,rfl⟩
     ·cases ht
    ·cases ht
   ·cases ht
  ·cases ht
 subst ht3;subst ht4;cases hX with
 | sref _ _ _ _ _ n c c' A B hι hB =>
  rcases hB with hB|⟨g,rfl,rfl,hmc,hcc⟩
  ·omega
  rw[Nat.add_zero]at hcc;subst hcc;simp only[Nat.zero_mul]at *;obtain⟨v,xs,e1,e2,e3,e4,e5⟩:=hs.hs.arrs id _ hr (by rw[hι];rfl);rw[hι]at e1;injection e1 with e1;subst e1
  obtain⟨hv,_⟩|⟨g',cap,cur,hv,hb,hg,hle,hcap,hsize,htake⟩:=e2.2
  ·cases hv
  injection hv with hA hn hcc
  injection hA with hA;injection hA with hA;subst hA;subst hcc
  simp only at hn hle hsize htake e3 e5;have hxl:xs.length=l.length*it.size:=e2.1;by_cases hm2:m2=0
  ·-- nothing is behind
   subst hm2;have hrun:(Builtin.append_ #[T,T] ty #[.slice (some ⟨g,0,none⟩) m c',Y]).run cx.P w=.ok (.slice (some ⟨g,0,none⟩) m c') w:=by
    have hz0:∀a:Addr,(loadCells a 0).run cx.P w=.ok #[] w:=fun a=>by simp[loadCells,loadCellsFrom]
    cases hY with
    | sref _ _ _ _ _ n2 c2 c3 A2 B2 _ _ =>
     cases B2 with
     | none=>simp[Builtin.append_,run_underlying ht1,sizeOf,typeInfo,ht2,Builtin.lenOf,Builtin.firstCells,hmc,storeCells]
     | some b=>simp[Builtin.append_,run_underlying ht1,sizeOf,typeInfo,ht2,Builtin.lenOf,Builtin.firstCells,hz0,hmc,storeCells]
   have hl:(l.take m++(l.drop off).take 0)=l.take m:=by simp
   rw[hl];refine⟨_,w,_,hrun,.ref _ _ _ _ _ (im _ _ _),hs.xl (k:=m) hnp htg hr hι (by show m≤l.length;omega)⟩
  ·cases hY with
   | sref _ _ _ _ _ n2 c2 c3 A2 B2 hι2 hB2 =>
    rw[hι]at hι2;injection hι2 with hι2;injection hι2 with q1 q2 q3;subst q1;subst q2;subst q3
    rcases hB2 with hB2|⟨g2,q1,rfl,hmc2,_⟩
    ·omega
    injection q1 with q1;injection q1 with q1;subst q1
    generalize hz:it.size=sz at *;have mul1:∀p q:Nat,p≤q→p*sz≤q*sz:=fun p q h=>Nat.mul_le_mul_right _ h;have hml:(m+m2)*sz=m*sz+m2*sz:=Nat.add_mul _ _ _;have hol:(off+m2)*sz=off*sz+m2*sz:=Nat.add_mul _ _ _;have i1:=mul1 m off h2;have i2:=mul1 (off+m2) l.length h3;have i3:=mul1 l.length c' hle;have hnl:((xs.drop (off*sz)).take (m2*sz)).length=m2*sz:=by rw[List.length_take,List.length_drop];omega
    have hxc:∀j,j<l.length*sz→cur[j]?=xs[j]?:=fun j hj=>by
     rw[←htake,List.getElem?_take,if_pos hj,Array.getElem?_toList]
    have hrun:=run_append_room (P:=cx.P) w T ty e it ht1 ht2 g m c' cur hg ⟨g,off*sz,none⟩ m2 c3 ((xs.drop (off*sz)).take (m2*sz)) (by rw[hz];exact hnl) (fun j u hj=>by
      rw[Addr.add_mid,cell_of_row _ _ _ _ e (0,0) hg];rw[List.getElem?_take]at hj;split at hj
      ·rename_i hjl;rw[List.getElem?_drop]at hj;rw[hxc _ (by omega)];exact hj
      ·cases hj) (fun u hu=>e4 u (List.mem_of_mem_drop (List.mem_of_mem_take hu))) (by omega) (by rw[hz,hnl];omega)
    rw[hz,hnl]at hrun;have hset:=hs.hs.JV (l':=l.take m++(l.drop off).take m2++l.drop (m+m2)) (xs':=xs.take (m*sz)++(xs.drop (off*sz)).take (m2*sz)++xs.drop (m*sz+m2*sz)) hr hι hg (uu l m off m2 h2 h3) (fun e he=>by
      rcases List.mem_append.1 he with he|he
      ·rcases List.mem_append.1 he with he|he
       ·exact e3 e (List.mem_of_mem_take he)
       ·exact e3 e (List.mem_of_mem_drop (List.mem_of_mem_take he))
      ·exact e3 e (List.mem_of_mem_drop he)) (by rw[uu xs _ _ _ i1 (by omega)];exact hxl) (fun x hx=>by
      rcases List.mem_append.1 hx with hx|hx
      ·rcases List.mem_append.1 hx with hx|hx
       ·exact e4 x (List.mem_of_mem_take hx)
       ·exact e4 x (List.mem_of_mem_drop (List.mem_of_mem_take hx))
      ·exact e4 x (List.mem_of_mem_drop hx)) (fun j el hj q c0 hq=>by
      rw[J3 l m off m2 h2 h3]at hj;simp only;have getx:∀j',l[j']?=some el→∃x,xs[j'*sz+q]?=some x∧Rel (NN cx.M ι) w bn c0 x:=fun j' hj'=>by
       obtain⟨x,hx,hrx⟩:=e5 j' el hj' q c0 hq;exact⟨x,hx,hrx.flat (by omega)⟩
      have hql:∀j',l[j']?=some el→q<sz:=fun j' hj'=>by rw[←e3 el (List.mem_of_getElem? hj')];exact(List.getElem?_eq_some_iff.1 hq).1
      have lt1:∀p r:Nat,p<r→q<sz→p*sz+q<r*sz:=fun p r h hq=>by
       have:=mul1 (p+1) r h;rw[Nat.add_mul,Nat.one_mul]at this;omega
      rw[J3 xs (m*sz) (off*sz) (m2*sz) i1 (by omega)];split at hj
      ·rename_i hjm;obtain⟨x,hx,hrx⟩:=getx j hj;rw[if_pos (lt1 j m hjm (hql j hj))];exact⟨x,hx,.inl hrx⟩
      ·rename_i hjm;have hge:=mul1 m j (by omega);split at hj
       ·rename_i hjm2;obtain⟨x,hx,hrx⟩:=getx _ hj;have h9:=lt1 j (m+m2) hjm2 (hql _ hj);rw[if_neg (by omega),if_pos (by omega)];refine⟨x,?_,.inl hrx⟩;rw[←hx];congr 1;rw[Nat.add_mul,Nat.sub_mul];omega
       ·rename_i hjm2;have hge2:=mul1 (m+m2) j (by omega);obtain⟨x,hx,hrx⟩:=getx j hj;rw[if_neg (by omega),if_neg (by omega)];exact⟨x,hx,.inl hrx⟩)
    have hC:cur.toList.take (m*sz)++(xs.drop (off*sz)).take (m2*sz)++cur.toList.drop (m*sz+m2*sz)=(xs.take (m*sz)++(xs.drop (off*sz)).take (m2*sz)++xs.drop (m*sz+m2*sz))++cur.toList.drop (xs.take (m*sz)++(xs.drop (off*sz)).take (m2*sz)++xs.drop (m*sz+m2*sz)).length:=by
     have key:∀(c:List Value) (k n:Nat),k≤n→n≤c.length→c.drop k=(c.take n).drop k++c.drop n:=fun c k n h1 h2=>by
      conv=>lhs;rw[←List.take_append_drop n c]
      rw[List.drop_append_of_le_length (by rw[List.length_take];omega)]
     have hcl:l.length*sz≤cur.toList.length:=by have:cur.toList.length=cur.size:=Array.length_toList;rw[this,hsize];exact i3
     have a1:cur.toList.take (m*sz)=xs.take (m*sz):=by
      rw[←htake,List.take_take];congr 1;omega
     rw[uu xs _ _ _ i1 (by omega),hxl,key cur.toList (m*sz+m2*sz) (l.length*sz) (by omega) hcl,htake,a1];simp only[List.append_assoc]
    rw[←hC]at hset;have hbg:bm (ι id)=some g:=by rw[hι];rfl
    have hs2:=hs.world hset rfl (by simp) (fun b _ hb=>hb) (fun b _ hb=>du (fun e=>hb (.inr ⟨id,by rw[e];exact hbg⟩))) (fun _ _ h=>h);have hlk:look id (aZ id (⟨e,sz,l.take m++(l.drop off).take m2++l.drop (m+m2)⟩:br) s.r)=some ⟨e,sz,l.take m++(l.drop off).take m2++l.drop (m+m2)⟩:=by rw[ca,if_pos rfl]
    have hs3:=hs2.xl (k:=m+m2) hnp htg hlk hι (by show m+m2≤(l.take m++(l.drop off).take m2++l.drop (m+m2)).length;rw[uu l m off m2 h2 h3];omega);have hl2:(l.take m++(l.drop off).take m2++l.drop (m+m2)).take (m+m2)=l.take m++(l.drop off).take m2:=by
     have:(l.take m++(l.drop off).take m2).length=m+m2:=by rw[List.length_append,List.length_take,List.length_take,List.length_drop];omega
     rw[List.take_append_of_le_length (by omega),List.take_of_length_le (by omega)]
    simp only[hl2,Cf]at hs3;exact⟨_,_,rep ι id (.slice (some ⟨g,0,none⟩) (m+m2) c'),hrun,.ref _ _ _ _ _ (im _ _ _),hs3⟩
theorem Ot(d id:Nat)(et:TypeId)(sz m off m2:Nat)(enc:α→List AV){L:List α}{x y:Operand}{T:TypeId}{bytes:Nat}(hb:(Nat.ble 1 m&&(Nat.ble m off&&Nat.ble (off+m2) L.length))=true)
  (k:OT cx Q ks all (aK f p (i+1)) (fB d id ⟨et,sz,(L.take m++(L.drop off).take m2).map enc⟩ s))
  (hop:(aQ f p i).op=.call ⟨.builtin .append,#[x,y],#[T,T]⟩:=by kernel_rfl) (hd:(aQ f p i).dst=some d:=by kernel_rfl) (hdn:Nat.ble (d+1) cx.n=true:=by kernel_rfl)
  (hx:s.ev x=some (.sref id sz 0 m):=by kernel_rfl) (hy:s.ev y=some (.sref id sz off m2):=by kernel_rfl) (hr:look id s.r=some ⟨et,sz,L.map enc⟩:=by kernel_rfl) (ht:gZ cx.P T=some (et,sz,bytes):=by kernel_rfl)
  (hnp:s.u.contains (cK id)=false:=by kernel_rfl) (htg:Nat.ble (id+1) TG=true:=by kernel_rfl) (hl:aK f p i=aQ f p i::aK f p (i+1):=by kernel_rfl) (hg:cd all s (aQ f p i)=true:=by kernel_rfl):OT cx Q ks all (aK f p i) s:=by
 simp only[Bool.and_eq_true]at hb;obtain⟨h1,h2,h3⟩:=hb;have h1:=Nat.le_of_ble_eq_true h1;have h2:=Nat.le_of_ble_eq_true h2;have h3:=Nat.le_of_ble_eq_true h3;rw[hl];refine ef _ hg fun a w ι hs=>?_;refine wpList_plain rfl fun K hK=>?_;obtain⟨v,w',ι',hrun,hv,hs2⟩:=KW (ty:=(aQ f p i).type) (bytes:=bytes) hs (Nat.le_of_ble_eq_true htg) (hs.hs.np hnp) (hs.ev hx) (hs.ev hy) hr ht h1 h2 (by rw[List.length_map];exact h3);have hmap:(List.map enc L).take m++((List.map enc L).drop off).take m2=(L.take m++(L.drop off).take m2).map enc:=by simp only[List.map_append,List.map_take,List.map_drop]
 rw[hmap]at hs2;unfold Oper.wp;simp[execOp,hop,resolve,invoke,builtin,hrun,Result.andThen];refine hK (a.put (aQ f p i).dst v) w' (k _ _ ι' ?_);have h9:=hs2.put (d:=some d) (fun k hk=>by injection hk with hk;subst hk;exact Nat.le_of_ble_eq_true hdn) hv;rw[hd];exact h9
end
end Go.Proofs.YtocgkfoifehcbaaGreat

/- New slices of the call's own: an empty literal, make. No program in sight. -/
import Derived.Test.YtocgkfoifehcbaaGreatRfVd
namespace Go.Proofs.YtocgkfoifehcbaaGreat
set_option linter.all false
open Go.RowKit
theorem HS.vQ{M:Nat→Prop}{w0:aE}{w:World}{ι:Env}{s:AS}(h:HS M w0 w ι s){d:Nat}(hd:has s.u d=false){e:TypeId}{sz n:Nat}{l:List (List AV)}{vs:List Value}(hn:l.length=n)(hm:n≤maxLen)(hvs:vs.length=n*sz)(hz:∀c∈l,c.length=sz)(h1:∀v∈vs,v.oneCell'=true)
  (hc:∀(j:Nat) (c:List AV),l[j]?=some c→∀(i:Nat) (x:AV),c[i]?=some x→∃v,vs[j*sz+i]?=some v∧Rel (NN M ι) w bn x v) :
  HS M w0 (w.alloc (.cells vs.toArray e)) (ext ι d (.slice (some ⟨w.heap.size,0,none⟩) n n)) { s with r:=aZ d ⟨e,sz,l⟩ s.r,u:=d::s.u }:=by
 have hno:=h.free hd;have hw0:w0.w.heap.size≤w.heap.size:=h.below.size;have bI:∀b,b<w.heap.size→¬ NN M ι b→(w.alloc (.cells vs.toArray e)).heap[b]?=w.heap[b]?:=fun b hb _=>Below.heap_alloc _ _ _ hb;have hN:∀b,b<w.heap.size→NN M (ext ι d (.slice (some ⟨w.heap.size,0,none⟩) n n)) b→NN M ι b:=fun b hb hh=>by
  rcases er hh with hh|hh
  ·exact hh
  ·injection hh with hh;simp only[]at hh;omega
 have hk:=dQ hno (.slice (some ⟨w.heap.size,0,none⟩) n n);refine⟨h.below.alloc hw0 _,h.old,fun i y hy=>?_,fun i g hg=>?_,fun i i' g hg hg'=>?_,fun i cs hi=>eA (h.ko i cs hi),fun i a hi=>?_,fun i cs hi hp=>?_,fun i a hi hp=>?_,fun i y hp=>⟨hk i y (h.pin i y hp).1,mI (h.pin i y hp).2⟩⟩
 ·by_cases e:i=d
  ·subst e;exact g8 _ _
  ·rw[bq _ _ e]at hy;exact eA (h.use i y hy)
 ·by_cases e:i=d
  ·subst e;rw[cr]at hg;injection hg with hg;simp only[]at hg;subst hg;exact⟨.inl hw0,by simp⟩
  ·rw[bq _ _ e]at hg;exact⟨(h.own i g hg).1,by have:=(h.own i g hg).2;simp;omega⟩
 ·by_cases e:i=d
  ·by_cases e':i'=d
   ·omega
   ·subst e;rw[cr]at hg;rw[bq _ _ e']at hg';injection hg with hg;simp only[]at hg
    have:=(h.own i' g hg').2;omega
  ·by_cases e':i'=d
   ·subst e';rw[cr]at hg';rw[bq _ _ e]at hg;injection hg' with hg';simp only[]at hg'
    have:=(h.own i g hg).2;omega
   ·rw[bq _ _ e]at hg;rw[bq _ _ e']at hg';exact h.inj i i' g hg hg'
 ·simp only[ca]at hi;by_cases e:i=d
  ·subst e;exact g8 _ _
  ·rw[if_neg e]at hi;exact eA (h.kr i a hi)
 ·have e:i≠d:=by rintro rfl;have:=h.ko i cs hi;rw[hd]at this;cases this
  rw[bq _ _ e]at hp;obtain⟨g',T',vs1,h1,h2,h3⟩:=h.objs i cs hi hp;have hlt:=(h.own i g' (by rw[h1];rfl)).2;exact⟨g',T',vs1,(bq _ _ e).trans h1,(Below.heap_alloc _ _ _ hlt).trans h2,h3.mono (by simp) hN bI hk⟩
 ·simp only[ca]at hi;by_cases ei:i=d
  ·subst ei;rw[if_pos rfl]at hi;injection hi with hi;subst hi
   refine⟨_,vs,cr _ _ _,⟨by simp[hvs,hn],.inr ⟨w.heap.size,n,vs.toArray,by simp[hn],Nat.zero_le _,heap_alloc_new w _,by simp[hn],hm,by simpa using hvs,by simp[hn,← hvs]⟩⟩,hz,h1,fun j c hj k x hk'=>?_⟩;obtain⟨v,hv,hr⟩:=hc j c hj k x hk';exact⟨v,hv,.inl (hr.mono (by simp) hN bI (fun _ _ h=>h))⟩
  ·rw[if_neg ei]at hi;rw[bq _ _ ei]at hp;obtain⟨v,xs,g1,g2,g3,g4,g5⟩:=h.arrs i a hi hp;refine⟨v,xs,(bq _ _ ei).trans g1,eo g2 (fun g' hg'=>Below.heap_alloc _ _ _ (h.own i g' (by rw[g1];exact hg')).2),g3,g4,fun j el hj k c hk'=>?_⟩;obtain⟨x,hx,hr⟩:=g5 j el hj k c hk';exact⟨x,hx,hr.mono (by simp) hN bI (fun r h'=>hk _ _ h') (fun r h'=>Below.heap_alloc _ _ _ (h.iJ h')) (fun h=>h)⟩
theorem aN.vQ{cx:Cx}{s:AS}{a:Act}{w:World}{ι:Env}(h:aN cx s a w ι){d:Nat}(hdn:d<cx.n)(hd:has s.u d=false){e:TypeId}{sz n:Nat}{l:List (List AV)}{vs:List Value}(hn:l.length=n)(hm:n≤maxLen)(hvs:vs.length=n*sz)(hz:∀c∈l,c.length=sz)(h1:∀v∈vs,v.oneCell'=true)
  (hc:∀(j:Nat) (c:List AV),l[j]?=some c→∀(i:Nat) (x:AV),c[i]?=some x→∃v,vs[j*sz+i]?=some v∧Rel (NN cx.M ι) w bn x v) :
  aN cx { t:=aZ d (.ref d) s.t,o:=s.o,r:=aZ d ⟨e,sz,l⟩ s.r,u:=d::s.u } (a.put (some d) (.slice (some ⟨w.heap.size,0,none⟩) n n)) (w.alloc (.cells vs.toArray e)) (ext ι d (.slice (some ⟨w.heap.size,0,none⟩) n n)):=by
 have hs:=h.hs.vQ hd hn hm hvs hz h1 hc (e:=e);have h2:aN cx { s with r:=aZ d ⟨e,sz,l⟩ s.r,u:=d::s.u } a (w.alloc (.cells vs.toArray e)) (ext ι d (.slice (some ⟨w.heap.size,0,none⟩) n n)) :=
  h.world hs rfl (by simp) (fun b hb hh=>by
   rcases er hh with hh|hh
   ·exact hh
   ·injection hh with hh;simp only[]at hh;omega) (fun b hb _=>Below.heap_alloc _ _ _ hb) (dQ (h.hs.free hd) _)
 exact h2.put (d:=some d) (fun k hk=>by injection hk with hk;subst hk;exact hdn) (.ref _ _ _ _ _ (cr _ _ _))
section
variable{cx:Cx}{Q:Exit→Act→World→Prop}{ks:List aq}{s:AS}
theorem ef{all:Array Oper}{r:List Oper}(o:Oper)(hg:cd all s o=true)(h:OT cx Q ks all ({ o with guard:=none }::r) s):OT cx Q ks all (o::r) s:=by
 unfold cd at hg;split at hg
 ·rename_i h0;have:({ o with guard:=none }:Oper)=o:=by cases o;simp at h0;subst h0;rfl
  rw[this]at h;exact h
 ·rename_i j b h0;split at hg
  ·rename_i v hv0;obtain⟨og,d',g1,g2,g3⟩:=jV hv0;have hb:v=b:=by cases v<;>cases b<;>simp at hg⊢
   subst hb;exact oW h0 g1 g2 g3 h
  ·cases hg
theorem Sw{all:Array Oper}{l r:List Oper}(o:Oper)(T:TypeId)(d:Nat){e:TypeId}{sz:Nat}(hl:l=o::r)(hg:cd all s o=true)(hop:o.op=.buildSlice T 0 #[])(hd:o.dst=some d)(hn:Nat.ble (d+1) cx.n=true)(ht:cx.P.underlying T=some (.slice e))(hz:bU cx.P e=some sz)(hu:has s.u d=false)
  (k:OT cx Q ks all r { t:=aZ d (.ref d) s.t,o:=s.o,r:=aZ d ⟨e,sz,[]⟩ s.r,u:=d::s.u }):OT cx Q ks all l s:=by
 subst hl;refine ef o hg fun a w ι hs=>?_;refine wpList_plain rfl fun K hK=>?_;have hs2:=hs.vQ (Nat.le_of_ble_eq_true hn) hu (e:=e) (sz:=sz) (n:=0) (l:=[]) (vs:=[]) rfl (Nat.zero_le _) (by simp) (fun c hc=>by cases hc) (fun v hv=>by cases hv) (fun j c hj=>by simp at hj);have hs':(sizeOf e).run cx.P w=.ok sz w:=by
  cases hi:cx.P.info? e with
  | none=>simp[bU,hi]at hz
  | some it =>
   have : it.size=sz:=by simpa[bU, hi]using hz
   simp[sizeOf,typeInfo,hi,this]
 unfold Oper.wp execOp;have hrun:(Instr.buildSlice T 0 #[]).run cx.P w=.ok (.slice (some ⟨w.heap.size,0,none⟩) 0 0) (w.alloc (.cells #[] e)):=by
  simp[Instr.buildSlice,run_underlying ht,hs',Instr.fill,newRow,D9]
 simp only[hop,Sem.run_bind];simp only[Array.map_empty,List.map_toArray,List.map_nil,hrun,Result.andThen_ok,Sem.run_pure];rw[hd];exact hK _ _ (k _ _ _ hs2)
end
mutual
def AV.mv(id nid:Nat):AV→AV
 | .ref i=>if i=id then .ref nid else .ref i
 | .ptr i o=>if i=id then .any else .ptr i o
 | .pp i g o=>if i=id then .any else .pp i g o
 | .sit i g s p=>if i=id then .any else .sit i g s p
 | .adr g o=>.adr g o
 | .eptr i sz j o=>if i=id then .any else .eptr i sz j o
 | .sref i sz o m=>if i=id then .any else .sref i sz o m
 | .agg cs=>.agg (gt id nid cs)
 | .tup cs=>.tup (gt id nid cs)
 | .int k n=>.int k n
 | .bool b=>.bool b
 | .str s=>.str s
 | .nils=>.nils
 | .sl l=>.sl l
 | .nilm=>.nilm
 | .mref _ _=>.any
 | .omp m=>.omp m
 | .osl e sz l=>.osl e sz l
 | .vv x=>.vv x
 | .lk i x=>if i=id then .any else .lk i x
 | .fn f c=>.fn f c
 | .fno f c=>.fno f (gt id nid c)
 | .nilf=>.nilf
 | .nilp=>.nilp
 | .cptr cs=>.cptr cs
 | .any=>.any
def gt(id nid:Nat):List AV→List AV
 | []=>[]
 | c::r=>c.mv id nid::gt id nid r
end
def mq(id nid:Nat):List (Nat×AV)→List (Nat×AV)
 | []=>[]
 | (k,v)::r=>(k,v.mv id nid)::mq id nid r
def mB(id nid:Nat):List (Nat×List AV)→List (Nat×List AV)
 | []=>[]
 | (k,v)::r=>(k,gt id nid v)::mB id nid r
theorem rg{id nid:Nat}:∀{l:List AV} {i:Nat} {x:AV},(gt id nid l)[i]?=some x→∃y,l[i]?=some y∧x=y.mv id nid
 | [],i,x,h=>by simp[gt]at h
 | c::r,0,x,h=>by simp[gt]at h;exact⟨c,rfl,h.symm⟩
 | c::r,i+1,x,h=>by simp only[gt,List.getElem?_cons_succ]at h⊢;exact rg h
theorem tH{id nid:Nat}:∀(l:List AV),(gt id nid l).length=l.length
 | []=>rfl
 | c::r=>by simp[gt,tH r]
theorem JE{id nid:Nat}:∀{l:List (Nat×AV)} {k:Nat} {v:AV},look k (mq id nid l)=some v→∃u,look k l=some u∧v=u.mv id nid
 | [],k,v,h=>by cases h
 | (j,x)::r,k,v,h=>by
  simp only[mq,look]at h⊢;split at h
  ·rename_i e;rw[if_pos e];injection h with h;exact⟨x,rfl,h.symm⟩
  ·rename_i e;rw[if_neg e];exact JE h
theorem yF{id nid:Nat}:∀{l:List (Nat×List AV)} {k:Nat} {v:List AV},look k (mB id nid l)=some v→∃u,look k l=some u∧v=gt id nid u
 | [],k,v,h=>by cases h
 | (j,x)::r,k,v,h=>by
  simp only[mB,look]at h⊢;split at h
  ·rename_i e;rw[if_pos e];injection h with h;exact⟨x,rfl,h.symm⟩
  ·rename_i e;rw[if_neg e];exact yF h
def gm(ι:Env)(id nid:Nat):Env:=fun i=>if i=nid then ι id else if i=id then none else ι i
theorem Rel.mv{N N':Nat→Prop}{w:World}{ι:Env}{v:AV}{x:Value}(h:Rel N w ι v x){id nid:Nat}{ι':Env}(hN:∀b,N' b→N b)(h1:∀y,ι id=some y→ι' nid=some y)(h2:∀i y,i≠id→ι i=some y→ι' i=some y):Rel N' w ι' (v.mv id nid) x:=by
 have hm:∀{e:Env} {v:AV} {x:Value},Rel N w e v x→Rel N' w e v x:=fun h=>h.mono (Nat.le_refl _) (fun b _ hb=>hN b hb) (fun _ _ _=>rfl) (fun _ _ h=>h)
 induction h with
 | int ι k n=>exact .int _ _ _
 | bool ι b=>exact .bool _ _
 | str ι s=>exact .str _ _
 | nils ι=>exact .nils _
 | nilm ι=>simp only[AV.mv];exact .nilm _
 | mref ι i q r v h h2=>simp only[AV.mv];exact .any _ _ rfl
 | sl0 ι A c=>exact .sl0 _ _ _
 | sl ι l b o c sz val hz hb hn g1 hc hr hcap ih=>simp only[AV.mv];exact .sl _ l b o c sz val hz hb (fun h=>hn (hN b h)) g1 hc (fun j e he i x hx=>hm (hr j e he i x hx)) hcap
 | fn ι f aP ys hl hr ih=>exact .fn _ f aP ys hl (fun i c y h1 h2=>hm (hr i c y h1 h2))
 | fno ι f aP ys hl hr ih =>
  refine .fno _ _ _ ys (by rw[tH];exact hl) (fun i x v hx hv=>?_);obtain⟨y,hy,rfl⟩:=rg hx;exact ih i y v hy hv h1 h2
 | nilf ι=>exact .nilf _
 | nilp ι=>exact .nilp _
 | any ι x h=>exact .any _ _ h
 | ptr ι i off g h =>
  simp only[AV.mv];split
  ·exact .any _ _ rfl
  ·rename_i e;exact .ptr _ _ _ _ (h2 _ _ e h)
 | adr ι g off=>simp only[AV.mv];exact .adr _ _ _
 | vv ι x h=>simp only[AV.mv];exact .vv _ _ h
 | lk ι i v x h h1' =>
  simp only[AV.mv];split
  ·exact .any _ _ h1'
  ·rename_i e;exact .lk _ _ _ _ (h2 _ _ e h) h1'
 | pp ι i g off h =>
  simp only[AV.mv];split
  ·exact .any _ _ rfl
  ·rename_i e;exact .pp _ _ _ _ (h2 _ _ e h)
 | sit ι i g s pos h hg hn hb =>
  simp only[AV.mv];split
  ·exact .any _ _ rfl
  ·rename_i e;exact .sit _ _ _ _ _ (h2 _ _ e h) hg (fun h=>hn (hN g h)) hb
 | eptr ι i sz j off g n c h =>
  simp only[AV.mv];split
  ·exact .any _ _ rfl
  ·rename_i e;exact .eptr _ _ _ _ _ _ n c (h2 _ _ e h)
 | sref ι i sz off m n c c' A B h hB =>
  simp only[AV.mv];split
  ·exact .any _ _ rfl
  ·rename_i e;exact .sref _ _ _ _ _ n c c' A B (h2 _ _ e h) hB
 | cptr ι cs b o val hb hn g1 hc hr ih=>simp only[AV.mv];exact .cptr _ cs b o val hb (fun h=>hn (hN b h)) g1 hc (fun i x hx=>hm (hr i x hx))
 | ref ι i A n c h =>
  simp only[AV.mv];split
  ·rename_i e;subst e;exact .ref _ _ _ _ _ (h1 _ h)
  ·rename_i e;exact .ref _ _ _ _ _ (h2 _ _ e h)
 | agg ι cs vs hl g1 hr ih =>
  refine .agg _ _ _ (by rw[tH];exact hl) g1 (fun i x v hx hv=>?_);obtain⟨y,hy,rfl⟩:=rg hx;exact ih i y v hy hv h1 h2
 | tup ι cs vs hl hr ih =>
  refine .tup _ _ _ (by rw[tH];exact hl) (fun i x v hx hv=>?_);obtain⟨y,hy,rfl⟩:=rg hx;exact ih i y v hy hv h1 h2
theorem aN.Qj{cx:Cx}{s:AS}{a:Act}{w:World}{ι:Env}(h:aN cx s a w ι){id nid:Nat}{ar:br}(ha:look id s.r=some ar)(hfl:TG≤id→∀e∈ar.l,∀c∈e,c.Kh=true)(hn:has s.u nid=false)(hnp:s.u.contains (cK id)=false):
  aN cx ⟨mq id nid s.t,mB id nid s.o,aZ nid ar (era id s.r),nid::s.u⟩ a w (gm ι id nid):=by
 have hno:=h.hs.free hn;have hne:nid≠id:=fun e=>by have:=h.hs.kr id ar ha;rw[←e,hn]at this;cases this
 have e1:gm ι id nid nid=ι id:=by simp[gm]
 have e2:∀i,i≠id→i≠nid→gm ι id nid i=ι i:=fun i a b=>by simp[gm,a,b]
 have e3:gm ι id nid id=none:=by simp[gm,Ne.symm hne]
 have h1:∀y,ι id=some y→gm ι id nid nid=some y:=fun y hy=>by rw[e1];exact hy
 have h2:∀i y,i≠id→ι i=some y→gm ι id nid i=some y:=fun i y hi hy=>by
  have:i≠nid:=fun e=>by subst e;rw[hno]at hy;cases hy
  rw[e2 i hi this];exact hy
 have hb:∀i g,bm (gm ι id nid i)=some g→∃j,bm (ι j)=some g∧(i=nid∧j=id∨i≠nid∧i≠id∧j=i):=fun i g hg=>by
  by_cases a1:i=nid
  ·subst a1;rw[e1]at hg;exact⟨id,hg,.inl ⟨rfl,rfl⟩⟩
  ·by_cases a2:i=id
   ·subst a2;rw[e3]at hg;cases hg
   ·rw[e2 i a2 a1]at hg;exact⟨i,hg,.inr ⟨a1,a2,rfl⟩⟩
 have hNN:∀b,NN cx.M (gm ι id nid) b→NN cx.M ι b:=fun b hh=>by
  rcases hh with hh|⟨i,hh⟩
  ·exact .inl hh
  ·obtain⟨j,hj,_⟩:=hb i b hh;exact .inr ⟨j,hj⟩
 refine⟨⟨h.hs.below,h.hs.old,fun i y hy=>?_,fun i g hg=>?_,fun i i' g hg hg'=>?_,fun i cs hi=>?_,fun i a hi=>?_,fun i cs hi hp=>?_,fun i a hi hp=>?_,fun i y hp=>(by
  have e:i≠id:=fun e=>by subst e;rw[h.hs.np hnp]at hp;cases hp
  exact⟨h2 i y e (h.hs.pin i y hp).1,mI (h.hs.pin i y hp).2⟩)⟩,h.dfr,h.n,fun k v hk=>?_⟩
 ·by_cases a1:i=nid
  ·subst a1;exact g8 _ _
  ·by_cases a2:i=id
   ·subst a2;rw[e3]at hy;cases hy
   ·rw[e2 i a2 a1]at hy;exact eA (h.hs.use i y hy)
 ·obtain⟨j,hj,_⟩:=hb i g hg;exact h.hs.own j g hj
 ·obtain⟨j,hj,c1⟩:=hb i g hg;obtain⟨j',hj',c2⟩:=hb i' g hg';have:=h.hs.inj j j' g hj hj';rcases c1 with⟨q1,q2⟩|⟨q1,q2,q3⟩<;>rcases c2 with⟨r1,r2⟩|⟨r1,r2,r3⟩<;>omega
 ·obtain⟨u,hu,rfl⟩:=yF hi;exact eA (h.hs.ko i u hu)
 ·simp only[ca]at hi;by_cases a1:i=nid
  ·subst a1;exact g8 _ _
  ·rw[if_neg a1,sx]at hi;split at hi
   ·cases hi
   ·exact eA (h.hs.kr i a hi)
 ·obtain⟨u,hu,rfl⟩:=yF hi;by_cases a1:i=nid
  ·subst a1;have:=h.hs.ko i u hu;rw[hn]at this;cases this
  ·by_cases a2:i=id
   ·subst a2;rw[e3]at hp;cases hp
   ·rw[e2 i a2 a1]at hp⊢;obtain⟨g,T,vs,c1,c2,c3⟩:=h.hs.objs i u hu hp;refine⟨g,T,vs,c1,c2,by rw[tH];exact c3.len,c3.one,fun j x v hx hv=>?_⟩;obtain⟨y,hy,rfl⟩:=rg hx;exact(c3.rel j y v hy hv).mv hNN h1 h2
 ·simp only[ca]at hi;by_cases a1:i=nid
  ·subst a1;rw[if_pos rfl]at hi;injection hi with hi;subst hi
   rw[e1]at hp⊢;obtain⟨v,xs,c1,c2,c3,c4,c5⟩:=h.hs.arrs id ar ha hp;refine⟨v,xs,c1,c2,c3,c4,fun j e hj k c hk=>?_⟩;obtain⟨x,hx,hr⟩:=c5 j e hj k c hk;exact⟨x,hx,.inl ((hr.Pn (fun ht=>hfl ht e (List.mem_of_getElem? hj) c (List.mem_of_getElem? hk))).mono (Nat.le_refl _) (fun b _ hb=>hNN b hb) (fun _ _ _=>rfl) (fun _ _ h=>h))⟩
  ·rw[if_neg a1,sx]at hi;split at hi
   ·cases hi
   ·rename_i a2;rw[e2 i a2 a1]at hp⊢;obtain⟨v,xs,c1,c2,c3,c4,c5⟩:=h.hs.arrs i a hi hp;refine⟨v,xs,c1,c2,c3,c4,fun j e hj k c hk=>?_⟩;obtain⟨x,hx,hr⟩:=c5 j e hj k c hk;exact⟨x,hx,hr.mono (Nat.le_refl _) (fun b _ hb=>hNN b hb) (fun _ _ _=>rfl) (fun r h'=>h2 _ _ (h.hs.wa ha h') h') (fun _ _=>rfl) (fun h=>h)⟩
 ·obtain⟨u,hu,rfl⟩:=JE hk;obtain⟨x,hx,hr⟩:=h.tmp k u hu;exact⟨x,hx,hr.mv hNN h1 h2⟩
theorem aN.mv{cx:Cx}{s:AS}{a:Act}{w:World}{ι:Env}(h:aN cx s a w ι){id nid:Nat}{ar:br}(htg:id<TG)(ha:look id s.r=some ar)(hn:has s.u nid=false)(hnp:s.u.contains (cK id)=false):
  aN cx ⟨mq id nid s.t,mB id nid s.o,aZ nid ar (era id s.r),nid::s.u⟩ a w (gm ι id nid) :=
 h.Qj ha (fun h=>by omega) hn hnp
theorem Rj{cx:Cx}{Q:Exit→Act→World→Prop}{ks:List aq}{s:AS}{e:Exit}(id nid:Nat){ar:br}(htg:id<TG)(ha:look id s.r=some ar)(hn:has s.u nid=false)(hnp:s.u.contains (cK id)=false)(h:VE cx Q ks e ⟨mq id nid s.t,mB id nid s.o,aZ nid ar (era id s.r),nid::s.u⟩):VE cx Q ks e s:=fun a w ι hs=>h a w _ (hs.mv htg ha hn hnp)
theorem tU{id i:Nat}{cs:List AV}(hi:cs[i]?=some (.ref id)):∀(N:Nat→Prop) w ι x,Rel N w ι (.agg cs) x→∃y,ι id=some y:=by
 intro N w ι x h;cases h with
 | agg _ _ vs hl _ hr =>
  have hlt:i<vs.length:=by rw[←hl];exact(List.getElem?_eq_some_iff.1 hi).1
  exact fS id N w ι _ (hr i _ _ hi (List.getElem?_eq_getElem hlt))
end Go.Proofs.YtocgkfoifehcbaaGreat

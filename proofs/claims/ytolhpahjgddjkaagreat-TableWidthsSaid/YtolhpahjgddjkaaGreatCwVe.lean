/- New slices of the call's own: an empty literal, make. No program in sight. -/
import Derived.Test.YtolhpahjgddjkaaGreatCwVd
namespace Go.Proofs.YtolhpahjgddjkaaGreat
set_option linter.all false
open Go.RowKit
theorem HS.tG{M:Nat→Prop}{w0:aJ}{w:World}{ι:Env}{s:AS}(h:HS M w0 w ι s){d:Nat}(hd:has s.u d=false){e:TypeId}{sz n:Nat}{l:List (List AV)}{vs:List Value}(hn:l.length=n)(hm:n≤maxLen)(hvs:vs.length=n*sz)(hz:∀c∈l,c.length=sz)(h1:∀v∈vs,v.oneCell'=true)
  (hc:∀(j:Nat) (c:List AV),l[j]?=some c→∀(i:Nat) (x:AV),c[i]?=some x→∃v,vs[j*sz+i]?=some v∧Rel (NN M ι) w bM x v) :
  HS M w0 (w.alloc (.cells vs.toArray e)) (ext ι d (.slice (some ⟨w.heap.size,0,none⟩) n n)) { s with r:=bh d ⟨e,sz,l⟩ s.r,u:=d::s.u }:=by
 have hno:=h.free hd;have hw0:w0.w.heap.size≤w.heap.size:=h.below.size;have keep:∀b,b<w.heap.size→¬ NN M ι b→(w.alloc (.cells vs.toArray e)).heap[b]?=w.heap[b]?:=fun b hb _=>Below.heap_alloc _ _ _ hb;have hN:∀b,b<w.heap.size→NN M (ext ι d (.slice (some ⟨w.heap.size,0,none⟩) n n)) b→NN M ι b:=fun b hb hh=>by
  rcases gj hh with hh|hh
  ·exact hh
  ·injection hh with hh;simp only[]at hh;omega
 have hk:=fH hno (.slice (some ⟨w.heap.size,0,none⟩) n n);refine⟨h.below.alloc hw0 _,h.old,fun i y hy=>?_,fun i g hg=>?_,fun i i' g hg hg'=>?_,fun i cs hi=>fg (h.ko i cs hi),fun i a hi=>?_,fun i cs hi hp=>?_,fun i a hi hp=>?_,fun i y hp=>⟨hk i y (h.pin i y hp).1,rh (h.pin i y hp).2⟩⟩
 ·by_cases e:i=d
  ·subst e;exact jY _ _
  ·rw[bU _ _ e]at hy;exact fg (h.use i y hy)
 ·by_cases e:i=d
  ·subst e;rw[cX]at hg;injection hg with hg;simp only[]at hg;subst hg;exact⟨.inl hw0,by simp⟩
  ·rw[bU _ _ e]at hg;exact⟨(h.own i g hg).1,by have:=(h.own i g hg).2;simp;omega⟩
 ·by_cases e:i=d
  ·by_cases e':i'=d
   ·omega
   ·subst e;rw[cX]at hg;rw[bU _ _ e']at hg';injection hg with hg;simp only[]at hg
    have:=(h.own i' g hg').2;omega
  ·by_cases e':i'=d
   ·subst e';rw[cX]at hg';rw[bU _ _ e]at hg;injection hg' with hg';simp only[]at hg'
    have:=(h.own i g hg).2;omega
   ·rw[bU _ _ e]at hg;rw[bU _ _ e']at hg';exact h.inj i i' g hg hg'
 ·simp only[cu]at hi;by_cases e:i=d
  ·subst e;exact jY _ _
  ·rw[if_neg e]at hi;exact fg (h.kr i a hi)
 ·have e:i≠d:=by rintro rfl;have:=h.ko i cs hi;rw[hd]at this;cases this
  rw[bU _ _ e]at hp;obtain⟨g',T',vs1,h1,h2,h3⟩:=h.objs i cs hi hp;have hlt:=(h.own i g' (by rw[h1];rfl)).2;exact⟨g',T',vs1,(bU _ _ e).trans h1,(Below.heap_alloc _ _ _ hlt).trans h2,h3.mono (by simp) hN keep hk⟩
 ·simp only[cu]at hi;by_cases ei:i=d
  ·subst ei;rw[if_pos rfl]at hi;injection hi with hi;subst hi
   refine⟨_,vs,cX _ _ _,⟨by simp[hvs,hn],.inr ⟨w.heap.size,n,vs.toArray,by simp[hn],Nat.zero_le _,heap_alloc_new w _,by simp[hn],hm,by simpa using hvs,by simp[hn,← hvs]⟩⟩,hz,h1,fun j c hj k x hk'=>?_⟩;obtain⟨v,hv,hr⟩:=hc j c hj k x hk';exact⟨v,hv,.inl (hr.mono (by simp) hN keep (fun _ _ h=>h))⟩
  ·rw[if_neg ei]at hi;rw[bU _ _ ei]at hp;obtain⟨v,xs,g1,g2,g3,g4,g5⟩:=h.arrs i a hi hp;refine⟨v,xs,(bU _ _ ei).trans g1,gc g2 (fun g' hg'=>Below.heap_alloc _ _ _ (h.own i g' (by rw[g1];exact hg')).2),g3,g4,fun j el hj k c hk'=>?_⟩;obtain⟨x,hx,hr⟩:=g5 j el hj k c hk';exact⟨x,hx,hr.mono (by simp) hN keep (fun r h'=>hk _ _ h') (fun r h'=>Below.heap_alloc _ _ _ (h.ig h')) (fun h=>h)⟩
theorem aX.tG{cx:Cx}{s:AS}{a:Act}{w:World}{ι:Env}(h:aX cx s a w ι){d:Nat}(hdn:d<cx.n)(hd:has s.u d=false){e:TypeId}{sz n:Nat}{l:List (List AV)}{vs:List Value}(hn:l.length=n)(hm:n≤maxLen)(hvs:vs.length=n*sz)(hz:∀c∈l,c.length=sz)(h1:∀v∈vs,v.oneCell'=true)
  (hc:∀(j:Nat) (c:List AV),l[j]?=some c→∀(i:Nat) (x:AV),c[i]?=some x→∃v,vs[j*sz+i]?=some v∧Rel (NN cx.M ι) w bM x v) :
  aX cx { t:=bh d (.ref d) s.t,o:=s.o,r:=bh d ⟨e,sz,l⟩ s.r,u:=d::s.u } (a.put (some d) (.slice (some ⟨w.heap.size,0,none⟩) n n)) (w.alloc (.cells vs.toArray e)) (ext ι d (.slice (some ⟨w.heap.size,0,none⟩) n n)):=by
 have hs:=h.hs.tG hd hn hm hvs hz h1 hc (e:=e);have h2:aX cx { s with r:=bh d ⟨e,sz,l⟩ s.r,u:=d::s.u } a (w.alloc (.cells vs.toArray e)) (ext ι d (.slice (some ⟨w.heap.size,0,none⟩) n n)) :=
  h.world hs rfl (by simp) (fun b hb hh=>by
   rcases gj hh with hh|hh
   ·exact hh
   ·injection hh with hh;simp only[]at hh;omega) (fun b hb _=>Below.heap_alloc _ _ _ hb) (fH (h.hs.free hd) _)
 exact h2.put (d:=some d) (fun k hk=>by injection hk with hk;subst hk;exact hdn) (.ref _ _ _ _ _ (cX _ _ _))
section
variable{cx:Cx}{Q:Exit→Act→World→Prop}{ks:List ao}{s:AS}
theorem iK{all:Array Oper}{r:List Oper}(o:Oper)(hg:cN all s o=true)(h:OT cx Q ks all ({ o with guard:=none }::r) s):OT cx Q ks all (o::r) s:=by
 unfold cN at hg;split at hg
 ·rename_i h0;have:({ o with guard:=none }:Oper)=o:=by cases o;simp at h0;subst h0;rfl
  rw[this]at h;exact h
 ·rename_i j b h0;split at hg
  ·rename_i v hv0;obtain⟨og,d',g1,g2,g3⟩:=lY hv0;have hb:v=b:=by cases v<;>cases b<;>simp at hg⊢
   subst hb;exact qO h0 g1 g2 g3 h
  ·cases hg
theorem Wf{all:Array Oper}{l r:List Oper}(o:Oper)(T:TypeId)(d:Nat){e:TypeId}{sz:Nat}(hl:l=o::r)(hg:cN all s o=true)(hop:o.op=.buildSlice T 0 #[])(hd:o.dst=some d)(hn:Nat.ble (d+1) cx.n=true)(ht:cx.P.underlying T=some (.slice e))(hz:cq cx.P e=some sz)(hu:has s.u d=false)
  (k:OT cx Q ks all r { t:=bh d (.ref d) s.t,o:=s.o,r:=bh d ⟨e,sz,[]⟩ s.r,u:=d::s.u }):OT cx Q ks all l s:=by
 subst hl;refine iK o hg fun a w ι hs=>?_;refine wpList_plain rfl fun K hK=>?_;have hs2:=hs.tG (Nat.le_of_ble_eq_true hn) hu (e:=e) (sz:=sz) (n:=0) (l:=[]) (vs:=[]) rfl (Nat.zero_le _) (by simp) (fun c hc=>by cases hc) (fun v hv=>by cases hv) (fun j c hj=>by simp at hj);have hs':(sizeOf e).run cx.P w=.ok sz w:=by
  cases hi:cx.P.info? e with
  | none=>simp[cq,hi]at hz
  | some it =>
   have : it.size=sz:=by simpa[cq, hi]using hz
   simp[sizeOf,typeInfo,hi,this]
 unfold Oper.wp execOp;have hrun:(Instr.buildSlice T 0 #[]).run cx.P w=.ok (.slice (some ⟨w.heap.size,0,none⟩) 0 0) (w.alloc (.cells #[] e)):=by
  simp[Instr.buildSlice,run_underlying ht,hs',Instr.fill,newRow,JL]
 simp only[hop,Sem.run_bind];simp only[Array.map_empty,List.map_toArray,List.map_nil,hrun,Result.andThen_ok,Sem.run_pure];rw[hd];exact hK _ _ (k _ _ _ hs2)
theorem Yo{α:Type}(enc:α→List AV)(zt:α){all:Array Oper}{l r:List Oper}(o:Oper)(T:TypeId)(x y:Operand)(d:Nat){e:TypeId}{sz:Nat}{zc:List AV}{bytes:Nat}{n:Int}{kd kd':IntKind}(hl:l=o::r)(hg:cN all s o=true)(hop:o.op=.makeSlice T x y)(hd:o.dst=some d)(hn:Nat.ble (d+1) cx.n=true)
  (hx:s.ev x=some (.int kd n)) (hy:s.ev y=some (.int kd' n)) (ht:gE cx.P T=some (e,sz,bytes)) (hz:fw cx.P e=some zc) (he:zc.map il=enc zt) (hu:has s.u d=false) (hb:eC n bytes=true)
  (k:OT cx Q ks all r { t:=bh d (.ref d) s.t,o:=s.o,r:=bh d ⟨e,sz,List.map enc (List.replicate n.toNat zt)⟩ s.r,u:=d::s.u }):OT cx Q ks all l s:=by
 subst hl;refine iK o hg fun a w ι hs=>?_;refine wpList_plain rfl fun K hK=>?_;simp only[eC,Bool.and_eq_true,decide_eq_true_eq]at hb;obtain⟨b0,b1,b2⟩:=hb;unfold gE at ht;split at ht
 case h_2=>cases ht
 rename_i e' hu';split at ht
 case h_2=>cases ht
 rename_i ti hti;split at ht
 case h_2=>cases ht
 rename_i z hzz;split at ht
 case isFalse=>cases ht
 rename_i hsz;injection ht with ht;injection ht with h1 ht;injection ht with h2 h3
 subst h1;subst h2;subst h3;have hzc:lv z.cells.toList=some zc:=by simpa[fw,hti,hzz]using hz
 have hcells:=(mL (NN cx.M ι) w bM hzc);have hpz:=hcells.pz;have hrun:=J6 w T e' ti z hu' hti hzz kd kd' n b0 b1 b2 hsz.2;have hlen:zc.length=ti.size:=by rw[hcells.len,← hsz.1];simp
 have hget:∀q,q<n.toNat*ti.size→((Array.range (n.toNat*ti.size)).map (z.cells[· % z.cells.size]!)).toList[q]?=z.cells.toList[q % ti.size]?:=fun q hq=>by
  have hm:q % ti.size<z.cells.size:=by rw[hsz.1];exact Nat.mod_lt _ hsz.2
  simp[hq,hsz.1];rw[getElem!_pos z.cells (q % ti.size) hm,Array.getElem?_eq_getElem hm]
 have hs2:=hs.tG (Nat.le_of_ble_eq_true hn) hu (e:=e') (sz:=ti.size) (n:=n.toNat) (l:=List.map enc (List.replicate n.toNat zt)) (vs:=((Array.range (n.toNat*ti.size)).map (z.cells[· % z.cells.size]!)).toList) (by simp) (by unfold maxLen;omega) (by simp)
  (fun c hc=>by
   simp only[List.map_replicate,List.mem_replicate]at hc;rw[hc.2,← he,List.length_map,hlen])
  (fun v hv=>by
   obtain⟨q,hq⟩:=List.getElem?_of_mem hv;have hlt:q<n.toNat*ti.size:=by have:=(List.getElem?_eq_some_iff.1 hq).1;simpa using this
   rw[hget q hlt]at hq;exact hcells.one v (List.mem_of_getElem? hq))
  (fun j c hj i x hx=>by
   simp only[List.map_replicate,List.getElem?_replicate]at hj;split at hj
   ·rename_i hjn;injection hj with hj;subst hj
    rw[←he]at hx;have hi:i<ti.size:=by have:=(List.getElem?_eq_some_iff.1 hx).1;rw[List.length_map,hlen]at this;exact this
    have hq:j*ti.size+i<n.toNat*ti.size:=by
     have:(j+1)*ti.size≤n.toNat*ti.size:=Nat.mul_le_mul_right _ hjn;rw[Nat.add_mul,Nat.one_mul]at this;omega
    have hmod:(j*ti.size+i) % ti.size=i:=by rw[Nat.mul_comm,Nat.mul_add_mod,Nat.mod_eq_of_lt hi]
    rw[hget _ hq,hmod];have hv:=List.getElem?_eq_getElem (l:=z.cells.toList) (i:=i) (by rw[←hcells.len,hlen];exact hi);exact⟨_,hv,hpz.rel i x _ hx hv⟩
   ·cases hj)
 unfold Oper.wp execOp;simp only[hop,Sem.run_bind,jc hs hx,jc hs hy,hrun,Result.andThen_ok,Sem.run_pure];rw[hd];have:=k _ _ _ hs2;simp only[Array.toArray_toList]at this;exact hK _ _ this
end
mutual
def AV.mv(id nid:Nat):AV→AV
 | .ref i=>if i=id then .ref nid else .ref i
 | .ptr i o=>if i=id then .any else .ptr i o
 | .pp i g o=>if i=id then .any else .pp i g o
 | .adr g o=>.adr g o
 | .eptr i sz j o=>if i=id then .any else .eptr i sz j o
 | .sref i sz o m=>if i=id then .any else .sref i sz o m
 | .agg cs=>.agg (js id nid cs)
 | .tup cs=>.tup (js id nid cs)
 | .int k n=>.int k n
 | .bool b=>.bool b
 | .str s=>.str s
 | .nils=>.nils
 | .sl l=>.sl l
 | .nilm=>.nilm
 | .mref _ _=>.any
 | .omp m=>.omp m
 | .osl e sz l=>.osl e sz l
 | .vv x=>.vv x
 | .lk i x=>if i=id then .any else .lk i x
 | .fn f c=>.fn f c
 | .nilf=>.nilf
 | .nilp=>.nilp
 | .cptr cs=>.cptr cs
 | .any=>.any
def js(id nid:Nat):List AV→List AV
 | []=>[]
 | c::r=>c.mv id nid::js id nid r
end
def lO(id nid:Nat):List (Nat×AV)→List (Nat×AV)
 | []=>[]
 | (k,v)::r=>(k,v.mv id nid)::lO id nid r
def lK(id nid:Nat):List (Nat×List AV)→List (Nat×List AV)
 | []=>[]
 | (k,v)::r=>(k,js id nid v)::lK id nid r
theorem z7{id nid:Nat}:∀{l:List AV} {i:Nat} {x:AV},(js id nid l)[i]?=some x→∃y,l[i]?=some y∧x=y.mv id nid
 | [],i,x,h=>by simp[js]at h
 | c::r,0,x,h=>by simp[js]at h;exact⟨c,rfl,h.symm⟩
 | c::r,i+1,x,h=>by simp only[js,List.getElem?_cons_succ]at h⊢;exact z7 h
theorem zj{id nid:Nat}:∀(l:List AV),(js id nid l).length=l.length
 | []=>rfl
 | c::r=>by simp[js,zj r]
theorem JR{id nid:Nat}:∀{l:List (Nat×AV)} {k:Nat} {v:AV},look k (lO id nid l)=some v→∃u,look k l=some u∧v=u.mv id nid
 | [],k,v,h=>by cases h
 | (j,x)::r,k,v,h=>by
  simp only[lO,look]at h⊢;split at h
  ·rename_i e;rw[if_pos e];injection h with h;exact⟨x,rfl,h.symm⟩
  ·rename_i e;rw[if_neg e];exact JR h
theorem Ey{id nid:Nat}:∀{l:List (Nat×List AV)} {k:Nat} {v:List AV},look k (lK id nid l)=some v→∃u,look k l=some u∧v=js id nid u
 | [],k,v,h=>by cases h
 | (j,x)::r,k,v,h=>by
  simp only[lK,look]at h⊢;split at h
  ·rename_i e;rw[if_pos e];injection h with h;exact⟨x,rfl,h.symm⟩
  ·rename_i e;rw[if_neg e];exact Ey h
def jq(ι:Env)(id nid:Nat):Env:=fun i=>if i=nid then ι id else if i=id then none else ι i
theorem Rel.mv{N N':Nat→Prop}{w:World}{ι:Env}{v:AV}{x:Value}(h:Rel N w ι v x){id nid:Nat}{ι':Env}(hN:∀b,N' b→N b)(h1:∀y,ι id=some y→ι' nid=some y)(h2:∀i y,i≠id→ι i=some y→ι' i=some y):Rel N' w ι' (v.mv id nid) x:=by
 have hm:∀{e:Env} {v:AV} {x:Value},Rel N w e v x→Rel N' w e v x:=fun h=>h.mono (Nat.le_refl _) (fun b _ hb=>hN b hb) (fun _ _ _=>rfl) (fun _ _ h=>h)
 induction h with
 | int ι k n=>exact .int _ _ _
 | bool ι b=>exact .bool _ _
 | str ι s=>exact .str _ _
 | nils ι=>exact .nils _
 | nilm ι=>simp only[AV.mv];exact .nilm _
 | mref ι i q r v h h2=>simp only[AV.mv];exact .any _ _ rfl
 | sl0 ι A c=>exact .sl0 _ _ _
 | sl ι l b o c sz val hz hb hn g1 hc hr hcap ih=>simp only[AV.mv];exact .sl _ l b o c sz val hz hb (fun h=>hn (hN b h)) g1 hc (fun j e he i x hx=>hm (hr j e he i x hx)) hcap
 | fn ι f aN ys hl hr ih=>exact .fn _ f aN ys hl (fun i c y h1 h2=>hm (hr i c y h1 h2))
 | nilf ι=>exact .nilf _
 | nilp ι=>exact .nilp _
 | any ι x h=>exact .any _ _ h
 | ptr ι i off g h =>
  simp only[AV.mv];split
  ·exact .any _ _ rfl
  ·rename_i e;exact .ptr _ _ _ _ (h2 _ _ e h)
 | adr ι g off=>simp only[AV.mv];exact .adr _ _ _
 | vv ι x h=>simp only[AV.mv];exact .vv _ _ h
 | lk ι i v x h h1' =>
  simp only[AV.mv];split
  ·exact .any _ _ h1'
  ·rename_i e;exact .lk _ _ _ _ (h2 _ _ e h) h1'
 | pp ι i g off h =>
  simp only[AV.mv];split
  ·exact .any _ _ rfl
  ·rename_i e;exact .pp _ _ _ _ (h2 _ _ e h)
 | eptr ι i sz j off g n c h =>
  simp only[AV.mv];split
  ·exact .any _ _ rfl
  ·rename_i e;exact .eptr _ _ _ _ _ _ n c (h2 _ _ e h)
 | sref ι i sz off m n c c' A B h hB =>
  simp only[AV.mv];split
  ·exact .any _ _ rfl
  ·rename_i e;exact .sref _ _ _ _ _ n c c' A B (h2 _ _ e h) hB
 | cptr ι cs b o val hb hn g1 hc hr ih=>simp only[AV.mv];exact .cptr _ cs b o val hb (fun h=>hn (hN b h)) g1 hc (fun i x hx=>hm (hr i x hx))
 | ref ι i A n c h =>
  simp only[AV.mv];split
  ·rename_i e;subst e;exact .ref _ _ _ _ _ (h1 _ h)
  ·rename_i e;exact .ref _ _ _ _ _ (h2 _ _ e h)
 | agg ι cs vs hl g1 hr ih =>
  refine .agg _ _ _ (by rw[zj];exact hl) g1 (fun i x v hx hv=>?_);obtain⟨y,hy,rfl⟩:=z7 hx;exact ih i y v hy hv h1 h2
 | tup ι cs vs hl hr ih =>
  refine .tup _ _ _ (by rw[zj];exact hl) (fun i x v hx hv=>?_);obtain⟨y,hy,rfl⟩:=z7 hx;exact ih i y v hy hv h1 h2
theorem aX.Nq{cx:Cx}{s:AS}{a:Act}{w:World}{ι:Env}(h:aX cx s a w ι){id nid:Nat}{ar:bD}(ha:look id s.r=some ar)(hfl:TG≤id→∀e∈ar.l,∀c∈e,c.oH=true)(hn:has s.u nid=false)(hnp:s.u.contains (ey id)=false):
  aX cx ⟨lO id nid s.t,lK id nid s.o,bh nid ar (era id s.r),nid::s.u⟩ a w (jq ι id nid):=by
 have hno:=h.hs.free hn;have hne:nid≠id:=fun e=>by have:=h.hs.kr id ar ha;rw[←e,hn]at this;cases this
 have e1:jq ι id nid nid=ι id:=by simp[jq]
 have e2:∀i,i≠id→i≠nid→jq ι id nid i=ι i:=fun i a b=>by simp[jq,a,b]
 have e3:jq ι id nid id=none:=by simp[jq,Ne.symm hne]
 have h1:∀y,ι id=some y→jq ι id nid nid=some y:=fun y hy=>by rw[e1];exact hy
 have h2:∀i y,i≠id→ι i=some y→jq ι id nid i=some y:=fun i y hi hy=>by
  have:i≠nid:=fun e=>by subst e;rw[hno]at hy;cases hy
  rw[e2 i hi this];exact hy
 have hb:∀i g,bV (jq ι id nid i)=some g→∃j,bV (ι j)=some g∧(i=nid∧j=id∨i≠nid∧i≠id∧j=i):=fun i g hg=>by
  by_cases a1:i=nid
  ·subst a1;rw[e1]at hg;exact⟨id,hg,.inl ⟨rfl,rfl⟩⟩
  ·by_cases a2:i=id
   ·subst a2;rw[e3]at hg;cases hg
   ·rw[e2 i a2 a1]at hg;exact⟨i,hg,.inr ⟨a1,a2,rfl⟩⟩
 have hNN:∀b,NN cx.M (jq ι id nid) b→NN cx.M ι b:=fun b hh=>by
  rcases hh with hh|⟨i,hh⟩
  ·exact .inl hh
  ·obtain⟨j,hj,_⟩:=hb i b hh;exact .inr ⟨j,hj⟩
 refine⟨⟨h.hs.below,h.hs.old,fun i y hy=>?_,fun i g hg=>?_,fun i i' g hg hg'=>?_,fun i cs hi=>?_,fun i a hi=>?_,fun i cs hi hp=>?_,fun i a hi hp=>?_,fun i y hp=>(by
  have e:i≠id:=fun e=>by subst e;rw[h.hs.np hnp]at hp;cases hp
  exact⟨h2 i y e (h.hs.pin i y hp).1,rh (h.hs.pin i y hp).2⟩)⟩,h.dfr,h.n,fun k v hk=>?_⟩
 ·by_cases a1:i=nid
  ·subst a1;exact jY _ _
  ·by_cases a2:i=id
   ·subst a2;rw[e3]at hy;cases hy
   ·rw[e2 i a2 a1]at hy;exact fg (h.hs.use i y hy)
 ·obtain⟨j,hj,_⟩:=hb i g hg;exact h.hs.own j g hj
 ·obtain⟨j,hj,c1⟩:=hb i g hg;obtain⟨j',hj',c2⟩:=hb i' g hg';have:=h.hs.inj j j' g hj hj';rcases c1 with⟨q1,q2⟩|⟨q1,q2,q3⟩<;>rcases c2 with⟨r1,r2⟩|⟨r1,r2,r3⟩<;>omega
 ·obtain⟨u,hu,rfl⟩:=Ey hi;exact fg (h.hs.ko i u hu)
 ·simp only[cu]at hi;by_cases a1:i=nid
  ·subst a1;exact jY _ _
  ·rw[if_neg a1,po]at hi;split at hi
   ·cases hi
   ·exact fg (h.hs.kr i a hi)
 ·obtain⟨u,hu,rfl⟩:=Ey hi;by_cases a1:i=nid
  ·subst a1;have:=h.hs.ko i u hu;rw[hn]at this;cases this
  ·by_cases a2:i=id
   ·subst a2;rw[e3]at hp;cases hp
   ·rw[e2 i a2 a1]at hp⊢;obtain⟨g,T,vs,c1,c2,c3⟩:=h.hs.objs i u hu hp;refine⟨g,T,vs,c1,c2,by rw[zj];exact c3.len,c3.one,fun j x v hx hv=>?_⟩;obtain⟨y,hy,rfl⟩:=z7 hx;exact(c3.rel j y v hy hv).mv hNN h1 h2
 ·simp only[cu]at hi;by_cases a1:i=nid
  ·subst a1;rw[if_pos rfl]at hi;injection hi with hi;subst hi
   rw[e1]at hp⊢;obtain⟨v,xs,c1,c2,c3,c4,c5⟩:=h.hs.arrs id ar ha hp;refine⟨v,xs,c1,c2,c3,c4,fun j e hj k c hk=>?_⟩;obtain⟨x,hx,hr⟩:=c5 j e hj k c hk;exact⟨x,hx,.inl ((hr.U7 (fun ht=>hfl ht e (List.mem_of_getElem? hj) c (List.mem_of_getElem? hk))).mono (Nat.le_refl _) (fun b _ hb=>hNN b hb) (fun _ _ _=>rfl) (fun _ _ h=>h))⟩
  ·rw[if_neg a1,po]at hi;split at hi
   ·cases hi
   ·rename_i a2;rw[e2 i a2 a1]at hp⊢;obtain⟨v,xs,c1,c2,c3,c4,c5⟩:=h.hs.arrs i a hi hp;refine⟨v,xs,c1,c2,c3,c4,fun j e hj k c hk=>?_⟩;obtain⟨x,hx,hr⟩:=c5 j e hj k c hk;exact⟨x,hx,hr.mono (Nat.le_refl _) (fun b _ hb=>hNN b hb) (fun _ _ _=>rfl) (fun r h'=>h2 _ _ (h.hs.zH ha h') h') (fun _ _=>rfl) (fun h=>h)⟩
 ·obtain⟨u,hu,rfl⟩:=JR hk;obtain⟨x,hx,hr⟩:=h.tmp k u hu;exact⟨x,hx,hr.mv hNN h1 h2⟩
theorem aX.mv{cx:Cx}{s:AS}{a:Act}{w:World}{ι:Env}(h:aX cx s a w ι){id nid:Nat}{ar:bD}(htg:id<TG)(ha:look id s.r=some ar)(hn:has s.u nid=false)(hnp:s.u.contains (ey id)=false):
  aX cx ⟨lO id nid s.t,lK id nid s.o,bh nid ar (era id s.r),nid::s.u⟩ a w (jq ι id nid) :=
 h.Nq ha (fun h=>by omega) hn hnp
theorem Zs{cx:Cx}{Q:Exit→Act→World→Prop}{ks:List ao}{s:AS}{e:Exit}(id nid:Nat){ar:bD}(htg:id<TG)(ha:look id s.r=some ar)(hn:has s.u nid=false)(hnp:s.u.contains (ey id)=false)(h:VE cx Q ks e ⟨lO id nid s.t,lK id nid s.o,bh nid ar (era id s.r),nid::s.u⟩):VE cx Q ks e s:=fun a w ι hs=>h a w _ (hs.mv htg ha hn hnp)
theorem jB{id i:Nat}{cs:List AV}(hi:cs[i]?=some (.ref id)):∀(N:Nat→Prop) w ι x,Rel N w ι (.agg cs) x→∃y,ι id=some y:=by
 intro N w ι x h;cases h with
 | agg _ _ vs hl _ hr =>
  have hlt:i<vs.length:=by rw[←hl];exact(List.getElem?_eq_some_iff.1 hi).1
  exact fQ id N w ι _ (hr i _ _ hi (List.getElem?_eq_getElem hlt))
theorem acO{id:Nat}{i j:Nat}{cs ds:List AV}(hi:cs[i]?=some (.agg ds))(hj:ds[j]?=some (.ref id)):∀(N:Nat→Prop) w ι x,Rel N w ι (.tup cs) x→∃y,ι id=some y:=by
 intro N w ι x h;cases h with
 | tup _ _ vs hl hr =>
  have hlt:i<vs.length:=by rw[←hl];exact(List.getElem?_eq_some_iff.1 hi).1
  exact jB hj N w ι _ (hr i _ _ hi (List.getElem?_eq_getElem hlt))
end Go.Proofs.YtolhpahjgddjkaaGreat

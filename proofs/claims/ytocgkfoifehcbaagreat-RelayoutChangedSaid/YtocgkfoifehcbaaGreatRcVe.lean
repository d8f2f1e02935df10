/- New slices of the call's own: an empty literal, make. No program in sight. -/
import Derived.Test.YtocgkfoifehcbaaGreatRcVd
namespace Go.Proofs.YtocgkfoifehcbaaGreat
set_option linter.all false
open Go.RowKit
theorem HS.qy{M:Nat→Prop}{w0:aB}{w:World}{ι:Env}{s:AS}(h:HS M w0 w ι s){d:Nat}(hd:has s.u d=false){e:TypeId}{sz n:Nat}{l:List (List AV)}{vs:List Value}(hn:l.length=n)(hm:n≤maxLen)(hvs:vs.length=n*sz)(hz:∀c∈l,c.length=sz)(h1:∀v∈vs,v.oneCell'=true)
  (hc:∀(j:Nat) (c:List AV),l[j]?=some c→∀(i:Nat) (x:AV),c[i]?=some x→∃v,vs[j*sz+i]?=some v∧Rel (NN M ι) w bD x v) :
  HS M w0 (w.alloc (.cells vs.toArray e)) (ext ι d (.slice (some ⟨w.heap.size,0,none⟩) n n)) { s with r:=bg d ⟨e,sz,l⟩ s.r,u:=d::s.u }:=by
 have hno:=h.free hd;have hw0:w0.w.heap.size≤w.heap.size:=h.below.size;have bR:∀b,b<w.heap.size→¬ NN M ι b→(w.alloc (.cells vs.toArray e)).heap[b]?=w.heap[b]?:=fun b hb _=>Below.heap_alloc _ _ _ hb;have hN:∀b,b<w.heap.size→NN M (ext ι d (.slice (some ⟨w.heap.size,0,none⟩) n n)) b→NN M ι b:=fun b hb hh=>by
  rcases er hh with hh|hh
  ·exact hh
  ·injection hh with hh;simp only[]at hh;omega
 have hk:=dx hno (.slice (some ⟨w.heap.size,0,none⟩) n n);refine⟨h.below.alloc hw0 _,h.old,fun i y hy=>?_,fun i g hg=>?_,fun i i' g hg hg'=>?_,fun i cs hi=>dr (h.ko i cs hi),fun i a hi=>?_,fun i cs hi hp=>?_,fun i a hi hp=>?_,fun i y hp=>⟨hk i y (h.pin i y hp).1,jP (h.pin i y hp).2⟩⟩
 ·by_cases e:i=d
  ·subst e;exact fR _ _
  ·rw[bJ _ _ e]at hy;exact dr (h.use i y hy)
 ·by_cases e:i=d
  ·subst e;rw[cn]at hg;injection hg with hg;simp only[]at hg;subst hg;exact⟨.inl hw0,by simp⟩
  ·rw[bJ _ _ e]at hg;exact⟨(h.own i g hg).1,by have:=(h.own i g hg).2;simp;omega⟩
 ·by_cases e:i=d
  ·by_cases e':i'=d
   ·omega
   ·subst e;rw[cn]at hg;rw[bJ _ _ e']at hg';injection hg with hg;simp only[]at hg
    have:=(h.own i' g hg').2;omega
  ·by_cases e':i'=d
   ·subst e';rw[cn]at hg';rw[bJ _ _ e]at hg;injection hg' with hg';simp only[]at hg'
    have:=(h.own i g hg).2;omega
   ·rw[bJ _ _ e]at hg;rw[bJ _ _ e']at hg';exact h.inj i i' g hg hg'
 ·simp only[ce]at hi;by_cases e:i=d
  ·subst e;exact fR _ _
  ·rw[if_neg e]at hi;exact dr (h.kr i a hi)
 ·have e:i≠d:=by rintro rfl;have:=h.ko i cs hi;rw[hd]at this;cases this
  rw[bJ _ _ e]at hp;obtain⟨g',T',vs1,h1,h2,h3⟩:=h.objs i cs hi hp;have hlt:=(h.own i g' (by rw[h1];rfl)).2;exact⟨g',T',vs1,(bJ _ _ e).trans h1,(Below.heap_alloc _ _ _ hlt).trans h2,h3.mono (by simp) hN bR hk⟩
 ·simp only[ce]at hi;by_cases ei:i=d
  ·subst ei;rw[if_pos rfl]at hi;injection hi with hi;subst hi
   refine⟨_,vs,cn _ _ _,⟨by simp[hvs,hn],.inr ⟨w.heap.size,n,vs.toArray,by simp[hn],Nat.zero_le _,heap_alloc_new w _,by simp[hn],hm,by simpa using hvs,by simp[hn,← hvs]⟩⟩,hz,h1,fun j c hj k x hk'=>?_⟩;obtain⟨v,hv,hr⟩:=hc j c hj k x hk';exact⟨v,hv,.inl (hr.mono (by simp) hN bR (fun _ _ h=>h))⟩
  ·rw[if_neg ei]at hi;rw[bJ _ _ ei]at hp;obtain⟨v,xs,g1,g2,g3,g4,g5⟩:=h.arrs i a hi hp;refine⟨v,xs,(bJ _ _ ei).trans g1,d4 g2 (fun g' hg'=>Below.heap_alloc _ _ _ (h.own i g' (by rw[g1];exact hg')).2),g3,g4,fun j el hj k c hk'=>?_⟩;obtain⟨x,hx,hr⟩:=g5 j el hj k c hk';exact⟨x,hx,hr.mono (by simp) hN bR (fun r h'=>hk _ _ h') (fun r h'=>Below.heap_alloc _ _ _ (h.fV h')) (fun h=>h)⟩
theorem aU.qy{cx:Cx}{s:AS}{a:Act}{w:World}{ι:Env}(h:aU cx s a w ι){d:Nat}(hdn:d<cx.n)(hd:has s.u d=false){e:TypeId}{sz n:Nat}{l:List (List AV)}{vs:List Value}(hn:l.length=n)(hm:n≤maxLen)(hvs:vs.length=n*sz)(hz:∀c∈l,c.length=sz)(h1:∀v∈vs,v.oneCell'=true)
  (hc:∀(j:Nat) (c:List AV),l[j]?=some c→∀(i:Nat) (x:AV),c[i]?=some x→∃v,vs[j*sz+i]?=some v∧Rel (NN cx.M ι) w bD x v) :
  aU cx { t:=bg d (.ref d) s.t,o:=s.o,r:=bg d ⟨e,sz,l⟩ s.r,u:=d::s.u } (a.put (some d) (.slice (some ⟨w.heap.size,0,none⟩) n n)) (w.alloc (.cells vs.toArray e)) (ext ι d (.slice (some ⟨w.heap.size,0,none⟩) n n)):=by
 have hs:=h.hs.qy hd hn hm hvs hz h1 hc (e:=e);have h2:aU cx { s with r:=bg d ⟨e,sz,l⟩ s.r,u:=d::s.u } a (w.alloc (.cells vs.toArray e)) (ext ι d (.slice (some ⟨w.heap.size,0,none⟩) n n)) :=
  h.world hs rfl (by simp) (fun b hb hh=>by
   rcases er hh with hh|hh
   ·exact hh
   ·injection hh with hh;simp only[]at hh;omega) (fun b hb _=>Below.heap_alloc _ _ _ hb) (dx (h.hs.free hd) _)
 exact h2.put (d:=some d) (fun k hk=>by injection hk with hk;subst hk;exact hdn) (.ref _ _ _ _ _ (cn _ _ _))
section
variable{cx:Cx}{Q:Exit→Act→World→Prop}{ks:List ao}{s:AS}
theorem dC{all:Array Oper}{r:List Oper}(o:Oper)(hg:ci all s o=true)(h:OT cx Q ks all ({ o with guard:=none }::r) s):OT cx Q ks all (o::r) s:=by
 unfold ci at hg;split at hg
 ·rename_i h0;have:({ o with guard:=none }:Oper)=o:=by cases o;simp at h0;subst h0;rfl
  rw[this]at h;exact h
 ·rename_i j b h0;split at hg
  ·rename_i v hv0;obtain⟨og,d',g1,g2,g3⟩:=jT hv0;have hb:v=b:=by cases v<;>cases b<;>simp at hg⊢
   subst hb;exact nh h0 g1 g2 g3 h
  ·cases hg
theorem Um{all:Array Oper}{l r:List Oper}(o:Oper)(T:TypeId)(d:Nat){e:TypeId}{sz:Nat}(hl:l=o::r)(hg:ci all s o=true)(hop:o.op=.buildSlice T 0 #[])(hd:o.dst=some d)(hn:Nat.ble (d+1) cx.n=true)(ht:cx.P.underlying T=some (.slice e))(hz:ch cx.P e=some sz)(hu:has s.u d=false)
  (k:OT cx Q ks all r { t:=bg d (.ref d) s.t,o:=s.o,r:=bg d ⟨e,sz,[]⟩ s.r,u:=d::s.u }):OT cx Q ks all l s:=by
 subst hl;refine dC o hg fun a w ι hs=>?_;refine wpList_plain rfl fun K hK=>?_;have hs2:=hs.qy (Nat.le_of_ble_eq_true hn) hu (e:=e) (sz:=sz) (n:=0) (l:=[]) (vs:=[]) rfl (Nat.zero_le _) (by simp) (fun c hc=>by cases hc) (fun v hv=>by cases hv) (fun j c hj=>by simp at hj);have hs':(sizeOf e).run cx.P w=.ok sz w:=by
  cases hi:cx.P.info? e with
  | none=>simp[ch,hi]at hz
  | some it =>
   have : it.size=sz:=by simpa[ch, hi]using hz
   simp[sizeOf,typeInfo,hi,this]
 unfold Oper.wp execOp;have hrun:(Instr.buildSlice T 0 #[]).run cx.P w=.ok (.slice (some ⟨w.heap.size,0,none⟩) 0 0) (w.alloc (.cells #[] e)):=by
  simp[Instr.buildSlice,run_underlying ht,hs',Instr.fill,newRow,FR]
 simp only[hop,Sem.run_bind];simp only[Array.map_empty,List.map_toArray,List.map_nil,hrun,Result.andThen_ok,Sem.run_pure];rw[hd];exact hK _ _ (k _ _ _ hs2)
theorem QG{α:Type}(enc:α→List AV)(zt:α){all:Array Oper}{l r:List Oper}(o:Oper)(T:TypeId)(x y:Operand)(d:Nat){e:TypeId}{sz:Nat}{zc:List AV}{bytes:Nat}{n:Int}{kd kd':IntKind}(hl:l=o::r)(hg:ci all s o=true)(hop:o.op=.makeSlice T x y)(hd:o.dst=some d)(hn:Nat.ble (d+1) cx.n=true)
  (hx:s.ev x=some (.int kd n)) (hy:s.ev y=some (.int kd' n)) (ht:fK cx.P T=some (e,sz,bytes)) (hz:dL cx.P e=some zc) (he:zc.map eV=enc zt) (hu:has s.u d=false) (hb:fq n bytes=true)
  (k:OT cx Q ks all r { t:=bg d (.ref d) s.t,o:=s.o,r:=bg d ⟨e,sz,List.map enc (List.replicate n.toNat zt)⟩ s.r,u:=d::s.u }):OT cx Q ks all l s:=by
 subst hl;refine dC o hg fun a w ι hs=>?_;refine wpList_plain rfl fun K hK=>?_;simp only[fq,Bool.and_eq_true,decide_eq_true_eq]at hb;obtain⟨b0,b1,b2⟩:=hb;unfold fK at ht;split at ht
 case h_2=>cases ht
 rename_i e' hu';split at ht
 case h_2=>cases ht
 rename_i ti hti;split at ht
 case h_2=>cases ht
 rename_i z hzz;split at ht
 case isFalse=>cases ht
 rename_i hsz;injection ht with ht;injection ht with h1 ht;injection ht with h2 h3
 subst h1;subst h2;subst h3;have hzc:iE z.cells.toList=some zc:=by simpa[dL,hti,hzz]using hz
 have hcells:=(i9 (NN cx.M ι) w bD hzc);have hpz:=hcells.pz;have hrun:=KQ w T e' ti z hu' hti hzz kd kd' n b0 b1 b2 hsz.2;have hlen:zc.length=ti.size:=by rw[hcells.len,← hsz.1];simp
 have hget:∀q,q<n.toNat*ti.size→((Array.range (n.toNat*ti.size)).map (z.cells[· % z.cells.size]!)).toList[q]?=z.cells.toList[q % ti.size]?:=fun q hq=>by
  have hm:q % ti.size<z.cells.size:=by rw[hsz.1];exact Nat.mod_lt _ hsz.2
  simp[hq,hsz.1];rw[getElem!_pos z.cells (q % ti.size) hm,Array.getElem?_eq_getElem hm]
 have hs2:=hs.qy (Nat.le_of_ble_eq_true hn) hu (e:=e') (sz:=ti.size) (n:=n.toNat) (l:=List.map enc (List.replicate n.toNat zt)) (vs:=((Array.range (n.toNat*ti.size)).map (z.cells[· % z.cells.size]!)).toList) (by simp) (by unfold maxLen;omega) (by simp)
  (fun c hc=>by
   simp only[List.map_replicate,List.mem_replicate]at hc;rw[hc.2,← he,List.length_map,hlen])
  (fun v hv=>by
   obtain⟨q,hq⟩:=List.getElem?_of_mem hv;have hlt:q<n.toNat*ti.size:=by have:=(List.getElem?_eq_some_iff.1 hq).1;simpa using this
   rw[hget q hlt]at hq;exact hcells.one v (List.mem_of_getElem? hq))
  (fun j c hj i x hx=>by
   simp only[List.map_replicate,List.getElem?_replicate]at hj;split at hj
   ·rename_i hjn;injection hj with hj;subst hj
    rw[←he]at hx;have hi:i<ti.size:=by have:=(List.getElem?_eq_some_iff.1 hx).1;rw[List.length_map,hlen]at this;exact this
    have hq:j*ti.size+i<n.toNat*ti.size:=by
     have:(j+1)*ti.size≤n.toNat*ti.size:=Nat.mul_le_mul_right _ hjn;rw[Nat.add_mul,Nat.one_mul]at this;omega
    have hmod:(j*ti.size+i) % ti.size=i:=by rw[Nat.mul_comm,Nat.mul_add_mod,Nat.mod_eq_of_lt hi]
    rw[hget _ hq,hmod];have hv:=List.getElem?_eq_getElem (l:=z.cells.toList) (i:=i) (by rw[←hcells.len,hlen];exact hi);exact⟨_,hv,hpz.rel i x _ hx hv⟩
   ·cases hj)
 unfold Oper.wp execOp;simp only[hop,Sem.run_bind,iu hs hx,iu hs hy,hrun,Result.andThen_ok,Sem.run_pure];rw[hd];have:=k _ _ _ hs2;simp only[Array.toArray_toList]at this;exact hK _ _ this
end
mutual
def AV.mv(id nid:Nat):AV→AV
 | .ref i=>if i=id then .ref nid else .ref i
 | .ptr i o=>if i=id then .any else .ptr i o
 | .pp i g o=>if i=id then .any else .pp i g o
 | .sit i g s p=>if i=id then .any else .sit i g s p
 | .adr g o=>.adr g o
 | .eptr i sz j o=>if i=id then .any else .eptr i sz j o
 | .sref i sz o m=>if i=id then .any else .sref i sz o m
 | .agg cs=>.agg (gb id nid cs)
 | .tup cs=>.tup (gb id nid cs)
 | .int k n=>.int k n
 | .bool b=>.bool b
 | .str s=>.str s
 | .nils=>.nils
 | .sl l=>.sl l
 | .nilm=>.nilm
 | .mref _ _=>.any
 | .omp m=>.omp m
 | .osl e sz l=>.osl e sz l
 | .vv x=>.vv x
 | .lk i x=>if i=id then .any else .lk i x
 | .fn f c=>.fn f c
 | .fno f c=>.fno f (gb id nid c)
 | .nilf=>.nilf
 | .nilp=>.nilp
 | .cptr cs=>.cptr cs
 | .any=>.any
def gb(id nid:Nat):List AV→List AV
 | []=>[]
 | c::r=>c.mv id nid::gb id nid r
end
def kR(id nid:Nat):List (Nat×AV)→List (Nat×AV)
 | []=>[]
 | (k,v)::r=>(k,v.mv id nid)::kR id nid r
def lD(id nid:Nat):List (Nat×List AV)→List (Nat×List AV)
 | []=>[]
 | (k,v)::r=>(k,gb id nid v)::lD id nid r
theorem pC{id nid:Nat}:∀{l:List AV} {i:Nat} {x:AV},(gb id nid l)[i]?=some x→∃y,l[i]?=some y∧x=y.mv id nid
 | [],i,x,h=>by simp[gb]at h
 | c::r,0,x,h=>by simp[gb]at h;exact⟨c,rfl,h.symm⟩
 | c::r,i+1,x,h=>by simp only[gb,List.getElem?_cons_succ]at h⊢;exact pC h
theorem qB{id nid:Nat}:∀(l:List AV),(gb id nid l).length=l.length
 | []=>rfl
 | c::r=>by simp[gb,qB r]
theorem Jx{id nid:Nat}:∀{l:List (Nat×AV)} {k:Nat} {v:AV},look k (kR id nid l)=some v→∃u,look k l=some u∧v=u.mv id nid
 | [],k,v,h=>by cases h
 | (j,x)::r,k,v,h=>by
  simp only[kR,look]at h⊢;split at h
  ·rename_i e;rw[if_pos e];injection h with h;exact⟨x,rfl,h.symm⟩
  ·rename_i e;rw[if_neg e];exact Jx h
theorem z5{id nid:Nat}:∀{l:List (Nat×List AV)} {k:Nat} {v:List AV},look k (lD id nid l)=some v→∃u,look k l=some u∧v=gb id nid u
 | [],k,v,h=>by cases h
 | (j,x)::r,k,v,h=>by
  simp only[lD,look]at h⊢;split at h
  ·rename_i e;rw[if_pos e];injection h with h;exact⟨x,rfl,h.symm⟩
  ·rename_i e;rw[if_neg e];exact z5 h
def f0(ι:Env)(id nid:Nat):Env:=fun i=>if i=nid then ι id else if i=id then none else ι i
theorem Rel.mv{N N':Nat→Prop}{w:World}{ι:Env}{v:AV}{x:Value}(h:Rel N w ι v x){id nid:Nat}{ι':Env}(hN:∀b,N' b→N b)(h1:∀y,ι id=some y→ι' nid=some y)(h2:∀i y,i≠id→ι i=some y→ι' i=some y):Rel N' w ι' (v.mv id nid) x:=by
 have hm:∀{e:Env} {v:AV} {x:Value},Rel N w e v x→Rel N' w e v x:=fun h=>h.mono (Nat.le_refl _) (fun b _ hb=>hN b hb) (fun _ _ _=>rfl) (fun _ _ h=>h)
 induction h with
 | int ι k n=>exact .int _ _ _
 | bool ι b=>exact .bool _ _
 | str ι s=>exact .str _ _
 | nils ι=>exact .nils _
 | nilm ι=>simp only[AV.mv];exact .nilm _
 | mref ι i q r v h h2=>simp only[AV.mv];exact .any _ _ rfl
 | sl0 ι A c=>exact .sl0 _ _ _
 | sl ι l b o c sz val hz hb hn g1 hc hr hcap ih=>simp only[AV.mv];exact .sl _ l b o c sz val hz hb (fun h=>hn (hN b h)) g1 hc (fun j e he i x hx=>hm (hr j e he i x hx)) hcap
 | fn ι f aK ys hl hr ih=>exact .fn _ f aK ys hl (fun i c y h1 h2=>hm (hr i c y h1 h2))
 | fno ι f aK ys hl hr ih =>
  refine .fno _ _ _ ys (by rw[qB];exact hl) (fun i x v hx hv=>?_);obtain⟨y,hy,rfl⟩:=pC hx;exact ih i y v hy hv h1 h2
 | nilf ι=>exact .nilf _
 | nilp ι=>exact .nilp _
 | any ι x h=>exact .any _ _ h
 | ptr ι i off g h =>
  simp only[AV.mv];split
  ·exact .any _ _ rfl
  ·rename_i e;exact .ptr _ _ _ _ (h2 _ _ e h)
 | adr ι g off=>simp only[AV.mv];exact .adr _ _ _
 | vv ι x h=>simp only[AV.mv];exact .vv _ _ h
 | lk ι i v x h h1' =>
  simp only[AV.mv];split
  ·exact .any _ _ h1'
  ·rename_i e;exact .lk _ _ _ _ (h2 _ _ e h) h1'
 | pp ι i g off h =>
  simp only[AV.mv];split
  ·exact .any _ _ rfl
  ·rename_i e;exact .pp _ _ _ _ (h2 _ _ e h)
 | sit ι i g s pos h hg hn hb =>
  simp only[AV.mv];split
  ·exact .any _ _ rfl
  ·rename_i e;exact .sit _ _ _ _ _ (h2 _ _ e h) hg (fun h=>hn (hN g h)) hb
 | eptr ι i sz j off g n c h =>
  simp only[AV.mv];split
  ·exact .any _ _ rfl
  ·rename_i e;exact .eptr _ _ _ _ _ _ n c (h2 _ _ e h)
 | sref ι i sz off m n c c' A B h hB =>
  simp only[AV.mv];split
  ·exact .any _ _ rfl
  ·rename_i e;exact .sref _ _ _ _ _ n c c' A B (h2 _ _ e h) hB
 | cptr ι cs b o val hb hn g1 hc hr ih=>simp only[AV.mv];exact .cptr _ cs b o val hb (fun h=>hn (hN b h)) g1 hc (fun i x hx=>hm (hr i x hx))
 | ref ι i A n c h =>
  simp only[AV.mv];split
  ·rename_i e;subst e;exact .ref _ _ _ _ _ (h1 _ h)
  ·rename_i e;exact .ref _ _ _ _ _ (h2 _ _ e h)
 | agg ι cs vs hl g1 hr ih =>
  refine .agg _ _ _ (by rw[qB];exact hl) g1 (fun i x v hx hv=>?_);obtain⟨y,hy,rfl⟩:=pC hx;exact ih i y v hy hv h1 h2
 | tup ι cs vs hl hr ih =>
  refine .tup _ _ _ (by rw[qB];exact hl) (fun i x v hx hv=>?_);obtain⟨y,hy,rfl⟩:=pC hx;exact ih i y v hy hv h1 h2
theorem aU.WL{cx:Cx}{s:AS}{a:Act}{w:World}{ι:Env}(h:aU cx s a w ι){id nid:Nat}{ar:bE}(ha:look id s.r=some ar)(hfl:TG≤id→∀e∈ar.l,∀c∈e,c.Ji=true)(hn:has s.u nid=false)(hnp:s.u.contains (cL id)=false):
  aU cx ⟨kR id nid s.t,lD id nid s.o,bg nid ar (era id s.r),nid::s.u⟩ a w (f0 ι id nid):=by
 have hno:=h.hs.free hn;have hne:nid≠id:=fun e=>by have:=h.hs.kr id ar ha;rw[←e,hn]at this;cases this
 have e1:f0 ι id nid nid=ι id:=by simp[f0]
 have e2:∀i,i≠id→i≠nid→f0 ι id nid i=ι i:=fun i a b=>by simp[f0,a,b]
 have e3:f0 ι id nid id=none:=by simp[f0,Ne.symm hne]
 have h1:∀y,ι id=some y→f0 ι id nid nid=some y:=fun y hy=>by rw[e1];exact hy
 have h2:∀i y,i≠id→ι i=some y→f0 ι id nid i=some y:=fun i y hi hy=>by
  have:i≠nid:=fun e=>by subst e;rw[hno]at hy;cases hy
  rw[e2 i hi this];exact hy
 have hb:∀i g,bo (f0 ι id nid i)=some g→∃j,bo (ι j)=some g∧(i=nid∧j=id∨i≠nid∧i≠id∧j=i):=fun i g hg=>by
  by_cases a1:i=nid
  ·subst a1;rw[e1]at hg;exact⟨id,hg,.inl ⟨rfl,rfl⟩⟩
  ·by_cases a2:i=id
   ·subst a2;rw[e3]at hg;cases hg
   ·rw[e2 i a2 a1]at hg;exact⟨i,hg,.inr ⟨a1,a2,rfl⟩⟩
 have hNN:∀b,NN cx.M (f0 ι id nid) b→NN cx.M ι b:=fun b hh=>by
  rcases hh with hh|⟨i,hh⟩
  ·exact .inl hh
  ·obtain⟨j,hj,_⟩:=hb i b hh;exact .inr ⟨j,hj⟩
 refine⟨⟨h.hs.below,h.hs.old,fun i y hy=>?_,fun i g hg=>?_,fun i i' g hg hg'=>?_,fun i cs hi=>?_,fun i a hi=>?_,fun i cs hi hp=>?_,fun i a hi hp=>?_,fun i y hp=>(by
  have e:i≠id:=fun e=>by subst e;rw[h.hs.np hnp]at hp;cases hp
  exact⟨h2 i y e (h.hs.pin i y hp).1,jP (h.hs.pin i y hp).2⟩)⟩,h.dfr,h.n,fun k v hk=>?_⟩
 ·by_cases a1:i=nid
  ·subst a1;exact fR _ _
  ·by_cases a2:i=id
   ·subst a2;rw[e3]at hy;cases hy
   ·rw[e2 i a2 a1]at hy;exact dr (h.hs.use i y hy)
 ·obtain⟨j,hj,_⟩:=hb i g hg;exact h.hs.own j g hj
 ·obtain⟨j,hj,c1⟩:=hb i g hg;obtain⟨j',hj',c2⟩:=hb i' g hg';have:=h.hs.inj j j' g hj hj';rcases c1 with⟨q1,q2⟩|⟨q1,q2,q3⟩<;>rcases c2 with⟨r1,r2⟩|⟨r1,r2,r3⟩<;>omega
 ·obtain⟨u,hu,rfl⟩:=z5 hi;exact dr (h.hs.ko i u hu)
 ·simp only[ce]at hi;by_cases a1:i=nid
  ·subst a1;exact fR _ _
  ·rw[if_neg a1,qM]at hi;split at hi
   ·cases hi
   ·exact dr (h.hs.kr i a hi)
 ·obtain⟨u,hu,rfl⟩:=z5 hi;by_cases a1:i=nid
  ·subst a1;have:=h.hs.ko i u hu;rw[hn]at this;cases this
  ·by_cases a2:i=id
   ·subst a2;rw[e3]at hp;cases hp
   ·rw[e2 i a2 a1]at hp⊢;obtain⟨g,T,vs,c1,c2,c3⟩:=h.hs.objs i u hu hp;refine⟨g,T,vs,c1,c2,by rw[qB];exact c3.len,c3.one,fun j x v hx hv=>?_⟩;obtain⟨y,hy,rfl⟩:=pC hx;exact(c3.rel j y v hy hv).mv hNN h1 h2
 ·simp only[ce]at hi;by_cases a1:i=nid
  ·subst a1;rw[if_pos rfl]at hi;injection hi with hi;subst hi
   rw[e1]at hp⊢;obtain⟨v,xs,c1,c2,c3,c4,c5⟩:=h.hs.arrs id ar ha hp;refine⟨v,xs,c1,c2,c3,c4,fun j e hj k c hk=>?_⟩;obtain⟨x,hx,hr⟩:=c5 j e hj k c hk;exact⟨x,hx,.inl ((hr.Tg (fun ht=>hfl ht e (List.mem_of_getElem? hj) c (List.mem_of_getElem? hk))).mono (Nat.le_refl _) (fun b _ hb=>hNN b hb) (fun _ _ _=>rfl) (fun _ _ h=>h))⟩
  ·rw[if_neg a1,qM]at hi;split at hi
   ·cases hi
   ·rename_i a2;rw[e2 i a2 a1]at hp⊢;obtain⟨v,xs,c1,c2,c3,c4,c5⟩:=h.hs.arrs i a hi hp;refine⟨v,xs,c1,c2,c3,c4,fun j e hj k c hk=>?_⟩;obtain⟨x,hx,hr⟩:=c5 j e hj k c hk;exact⟨x,hx,hr.mono (Nat.le_refl _) (fun b _ hb=>hNN b hb) (fun _ _ _=>rfl) (fun r h'=>h2 _ _ (h.hs.pw ha h') h') (fun _ _=>rfl) (fun h=>h)⟩
 ·obtain⟨u,hu,rfl⟩:=Jx hk;obtain⟨x,hx,hr⟩:=h.tmp k u hu;exact⟨x,hx,hr.mv hNN h1 h2⟩
theorem aU.mv{cx:Cx}{s:AS}{a:Act}{w:World}{ι:Env}(h:aU cx s a w ι){id nid:Nat}{ar:bE}(htg:id<TG)(ha:look id s.r=some ar)(hn:has s.u nid=false)(hnp:s.u.contains (cL id)=false):
  aU cx ⟨kR id nid s.t,lD id nid s.o,bg nid ar (era id s.r),nid::s.u⟩ a w (f0 ι id nid) :=
 h.WL ha (fun h=>by omega) hn hnp
theorem Tq{cx:Cx}{Q:Exit→Act→World→Prop}{ks:List ao}{s:AS}{e:Exit}(id nid:Nat){ar:bE}(htg:id<TG)(ha:look id s.r=some ar)(hn:has s.u nid=false)(hnp:s.u.contains (cL id)=false)(h:VE cx Q ks e ⟨kR id nid s.t,lD id nid s.o,bg nid ar (era id s.r),nid::s.u⟩):VE cx Q ks e s:=fun a w ι hs=>h a w _ (hs.mv htg ha hn hnp)
theorem sZ{id i:Nat}{cs:List AV}(hi:cs[i]?=some (.ref id)):∀(N:Nat→Prop) w ι x,Rel N w ι (.agg cs) x→∃y,ι id=some y:=by
 intro N w ι x h;cases h with
 | agg _ _ vs hl _ hr =>
  have hlt:i<vs.length:=by rw[←hl];exact(List.getElem?_eq_some_iff.1 hi).1
  exact dt id N w ι _ (hr i _ _ hi (List.getElem?_eq_getElem hlt))
end Go.Proofs.YtocgkfoifehcbaaGreat

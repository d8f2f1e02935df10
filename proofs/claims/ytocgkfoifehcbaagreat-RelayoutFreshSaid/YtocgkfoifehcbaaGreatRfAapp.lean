/- Append on abstract values. No program in sight. -/
import Derived.Test.YtocgkfoifehcbaaGreatRfAop3
import Derived.Laws.AppendOwn
namespace Go.Proofs.YtocgkfoifehcbaaGreat
set_option linter.all false
open Go.RowKit
mutual
def AV.co(id:Nat):AV→AV
 | .ref i=>if i=id then .any else .ref i
 | .eptr i sz j off=>if i=id then .any else .eptr i sz j off
 | .sref i sz off m=>if i=id then .any else .sref i sz off m
 | .ptr i off=>if i=id then .any else .ptr i off
 | .pp i g off=>if i=id then .any else .pp i g off
 | .sit i g s p=>if i=id then .any else .sit i g s p
 | .adr g off=>.adr g off
 | .agg cs=>.agg (gA id cs)
 | .tup cs=>.tup (gA id cs)
 | .int k n=>.int k n
 | .bool b=>.bool b
 | .str s=>.str s
 | .nils=>.nils
 | .sl l=>.sl l
 | .nilm=>.nilm
 | .mref _ _=>.any
 | .omp m=>.omp m
 | .osl e sz l=>.osl e sz l
 | .vv x=>.vv x
 | .lk i x=>if i=id then .any else .lk i x
 | .fn f c=>.fn f c
 | .fno f c=>.fno f (gA id c)
 | .nilf=>.nilf
 | .nilp=>.nilp
 | .cptr cs=>.cptr cs
 | .any=>.any
def gA(id:Nat):List AV→List AV
 | []=>[]
 | c::r=>c.co id::gA id r
end
theorem jk{id:Nat}:∀{l:List AV} {i:Nat} {x:AV},(gA id l)[i]?=some x→∃y,l[i]?=some y∧x=y.co id
 | [],i,x,h=>by simp[gA]at h
 | c::r,0,x,h=>by simp[gA]at h;exact⟨c,by simp,h.symm⟩
 | c::r,i+1,x,h=>by simp[gA]at h;obtain⟨y,h1,h2⟩:=jk h;exact⟨y,by simpa using h1,h2⟩
theorem jj{id:Nat}:∀(l:List AV),(gA id l).length=l.length
 | []=>rfl
 | c::r=>by simp[gA,jj r]
theorem Rel.co{N:Nat→Prop}{w:World}{ι:Env}{v:AV}{x:Value}(h:Rel N w ι v x){id:Nat}{ι':Env}(hι:∀i,i≠id→ι' i=ι i):Rel N w ι' (v.co id) x:=by
 induction h with
 | int ι k n=>simp only[AV.co];exact .int _ _ _
 | bool ι b=>simp only[AV.co];exact .bool _ _
 | str ι s=>simp only[AV.co];exact .str _ _
 | nils ι=>simp only[AV.co];exact .nils _
 | nilm ι=>simp only[AV.co];exact .nilm _
 | mref ι i q r v h h2=>simp only[AV.co];exact .any _ _ rfl
 | sl0 ι A c=>simp only[AV.co];exact .sl0 _ _ _
 | sl ι l b o c sz val hz hb hn h1 hc hr hcap ih=>simp only[AV.co];exact .sl _ l b o c sz val hz hb hn h1 hc hr hcap
 | fn ι f aP ys hl hr ih=>simp only[AV.co];exact .fn _ f aP ys hl hr
 | fno ι f aP ys hl hr ih =>
  simp only[AV.co];exact .fno _ _ _ ys (by rw[jj];exact hl) (fun i x v hx hv=>by
   obtain⟨y,hy,rfl⟩:=jk hx;exact ih i y v hy hv hι)
 | nilf ι=>simp only[AV.co];exact .nilf _
 | nilp ι=>simp only[AV.co];exact .nilp _
 | any ι x h=>simp only[AV.co];exact .any _ _ h
 | ptr ι i off g h =>
  simp only[AV.co];split
  ·exact .any _ _ rfl
  ·rename_i hne;exact .ptr _ _ _ _ ((hι i hne).trans h)
 | eptr ι i sz j off g n c h =>
  simp only[AV.co];split
  ·exact .any _ _ rfl
  ·rename_i hne;exact .eptr _ _ _ _ _ _ n c ((hι i hne).trans h)
 | sref ι i sz off m n c c' A B h hB =>
  simp only[AV.co];split
  ·exact .any _ _ rfl
  ·rename_i hne;exact .sref _ _ _ _ _ n c c' A B ((hι i hne).trans h) hB
 | adr ι g off=>simp only[AV.co];exact .adr _ _ _
 | vv ι x h=>simp only[AV.co];exact .vv _ _ h
 | lk ι i v x h h1 =>
  simp only[AV.co];split
  ·exact .any _ _ h1
  ·rename_i hne;exact .lk _ _ _ _ ((hι i hne).trans h) h1
 | pp ι i g off h =>
  simp only[AV.co];split
  ·exact .any _ _ rfl
  ·rename_i hne;exact .pp _ _ _ _ ((hι i hne).trans h)
 | sit ι i g s pos h hg hn hb =>
  simp only[AV.co];split
  ·exact .any _ _ rfl
  ·rename_i hne;exact .sit _ _ _ _ _ ((hι i hne).trans h) hg hn hb
 | cptr ι cs b o val hb hn h1 hc hr ih=>simp only[AV.co];exact .cptr _ cs b o val hb hn h1 hc hr
 | ref ι i A n c h =>
  simp only[AV.co];split
  ·exact .any _ _ rfl
  ·rename_i hne;exact .ref _ _ _ _ _ ((hι i hne).trans h)
 | agg ι cs vs hl h1 hr ih =>
  simp only[AV.co];exact .agg _ _ vs (by rw[jj];exact hl) h1 (fun i x v hx hv=>by
   obtain⟨y,hy,rfl⟩:=jk hx;exact ih i y v hy hv hι)
 | tup ι cs vs hl hr ih =>
  simp only[AV.co];exact .tup _ _ vs (by rw[jj];exact hl) (fun i x v hx hv=>by
   obtain⟨y,hy,rfl⟩:=jk hx;exact ih i y v hy hv hι)
def cQ(id:Nat):List (Nat×AV)→List (Nat×AV)
 | []=>[]
 | (k,v)::r=>(k,v.co id)::cQ id r
def dJ(id:Nat):List (Nat×List AV)→List (Nat×List AV)
 | []=>[]
 | (k,v)::r=>(k,gA id v)::dJ id r
theorem lO{id:Nat}:∀{l:List (Nat×AV)} {k:Nat} {v:AV},look k (cQ id l)=some v→∃u,look k l=some u∧v=u.co id
 | [],k,v,h=>by cases h
 | (j,x)::r,k,v,h=>by
  simp only[cQ,look]at h⊢;split at h
  ·rename_i e;injection h with h;exact⟨x,by rw[if_pos e],h.symm⟩
  ·rename_i e;rw[if_neg e];exact lO h
theorem gP{id:Nat}:∀{l:List (Nat×List AV)} {k:Nat} {v:List AV},look k (dJ id l)=some v→∃u,look k l=some u∧v=gA id u
 | [],k,v,h=>by cases h
 | (j,x)::r,k,v,h=>by
  simp only[dJ,look]at h⊢;split at h
  ·rename_i e;injection h with h;exact⟨x,by rw[if_pos e],h.symm⟩
  ·rename_i e;rw[if_neg e];exact gP h
def rep(ι:Env)(id:Nat)(v:Value):Env:=fun i=>if i=id then some v else ι i
theorem im(ι:Env)(id:Nat)(v:Value):rep ι id v id=some v:=by simp[rep]
theorem oH(ι:Env){id i:Nat}(v:Value)(h:i≠id):rep ι id v i=ι i:=by simp[rep,h]
theorem K3{P:Program}(w:World)(base:Nat)(t ty e:TypeId)(i:TypeInfo)(z:Value)(size bytes:Nat)(ht:P.underlying t=some (.slice e))(hi:P.info? e=some i)(hz:i.zero=some z)
  (hsize:i.size=size) (hby:i.bytes=bytes) (hzs:z.cells.size=size) (hsz:0<size)
  (v:Value) (n:Nat) (xs:List Value) (hown:w.ownsRow base e size v n xs)
  (a:Addr) (m c:Nat) (news:List Value) (hl:news.length=m*size) (hnews:∀j u,news[j]?=some u→w.cell? (a.add j)=some u) (h1:∀u∈news,u.oneCell'=true)
  (h63:n+m≤maxLen) (hbytes:(n+m)*bytes≤140737488355328) (hbase:base≤w.heap.size) :
  ∃v' w',(Builtin.append_ #[t,t] ty #[v,.slice (some a) m c]).run P w=.ok v' w'∧w'.ownsRow base e size v' (n+m) (xs++news)∧w.grownBy w' v.ownBlock ∧
   (bm (some v')=bm (some v)∨bm (some v')=some w.heap.size)∧(∀A k c,v'=.slice A k c→k=n+m)∧∃A k c,v'=.slice A k c:=by
 have hown0:=hown;obtain⟨v',w',hr,hown',hg,hn0⟩:=run_append_own (P:=P) w base t ty e i z size bytes ht hi hz hsize hby hzs hsz v n xs hown a m c news hl hnews h1 h63 hbytes hbase;have hshape:(∀A k c,v'=.slice A k c→k=n+m)∧∃A k c,v'=.slice A k c:=by
  obtain⟨hv,h0⟩|⟨g,cap,cur,hv,_⟩:=hown'.2
  ·exact⟨fun A k c e=>by rw[hv]at e;injection e with _ e _;omega,_,_,_,hv⟩
  ·exact⟨fun A k c e=>by rw[hv]at e;injection e with _ e _;exact e.symm,_,_,_,hv⟩
 refine⟨v',w',hr,hown',hg,?_,hshape.1,hshape.2⟩;subst hsize;subst hby;have hsmall:n+m≤9223372036854775807:=by simp only[maxLen]at h63;omega
 obtain⟨rfl,rfl⟩|⟨g,cap,cur,rfl,hbg,hgc,hnc,hcm,hcs,htake⟩:=hown.2
 ·have hx:xs=[]:=List.eq_nil_of_length_eq_zero (by simpa using hown.1);by_cases hm:m=0
  ·have:=hn0.2 ⟨rfl,hm⟩;left;rw[this]
  ·have hr2:=run_append_nil (P:=P) w t ty e i z ht hi hz a m c news hl hnews (by omega) (by omega) (by have hb:=hbytes;simp only[Nat.zero_add]at hb;omega);rw[hr2]at hr;injection hr with hr _
   right;rw[←hr];rfl
 ·by_cases hroom:n+m≤cap
  ·have hfit:n*i.size+news.length≤cur.size:=by rw[hl,hcs,← Nat.add_mul];exact Nat.mul_le_mul_right _ hroom
   have hr2:=run_append_room (P:=P) w t ty e i ht hi g n cap cur hgc a m c news hl hnews h1 hroom hfit;rw[hr2]at hr;injection hr with hr _
   left;rw[←hr];rfl
  ·have holds:∀j u,xs[j]?=some u→w.cell? ((⟨g,0,none⟩:Addr).add j)=some u:=hown.cells (g:=g) rfl;have hr2:=run_append_grow (P:=P) w t ty e i z ht hi hz ⟨g,0,none⟩ n cap xs hown.1 holds a m c news hl hnews (by omega) (by omega) (growslice_fits (by omega) hbytes);rw[hr2]at hr;injection hr with hr _
   right;rw[←hr];rfl
theorem Ud{P:Program}(w:World)(t ty e:TypeId)(i:TypeInfo)(ht:P.underlying t=some (.slice e))(hi:P.info? e=some i)(base size:Nat)(v:Value)(n:Nat)(xs:List Value)(hown:w.ownsRow base e size v n xs)(A:Option Addr)(c:Nat):
  (Builtin.append_ #[t,t] ty #[v,.slice A 0 c]).run P w=.ok v w:=by
 have hz0:∀a:Addr,(loadCells a 0).run P w=.ok #[] w:=fun a=>by simp[loadCells,loadCellsFrom]
 obtain⟨rfl,rfl⟩|⟨g,cap,cur,rfl,hbg,hgc,hnc,hcm,hcs,htake⟩:=hown.2
 ·cases A with
  | none=>simp[Builtin.append_,run_underlying ht,sizeOf,typeInfo,hi,Builtin.lenOf,Builtin.firstCells]
  | some a=>simp[Builtin.append_,run_underlying ht,sizeOf,typeInfo,hi,Builtin.lenOf,Builtin.firstCells,hz0]
 ·cases A with
  | none=>simp[Builtin.append_,run_underlying ht,sizeOf,typeInfo,hi,Builtin.lenOf,Builtin.firstCells,hnc,storeCells]
  | some a=>simp[Builtin.append_,run_underlying ht,sizeOf,typeInfo,hi,Builtin.lenOf,Builtin.firstCells,hz0,hnc,storeCells]
def gZ(P:Program)(T:TypeId):Option (TypeId×Nat×Nat) :=
 match P.underlying T with
 | some (.slice e)=>match P.info? e with
  | some i=>match i.zero with
   | some z=>if z.cells.size=i.size∧0<i.size then some (e,i.size,i.bytes) else none
   | none=>none
  | none=>none
 | _=>none
def j6(s:AS)(sz:Nat):AV→Option (List (List AV))
 | .nils=>some []
 | .sl l=>if l.all (fun e=>e.length == sz)=true then some l else none
 | .ref id=>match look id s.r with|some a=>if a.sz=sz∧id<TG then some a.l else none|none=>none
 | _=>none
def qD(P:Program)(s:AS)(d:Nat)(T:TypeId)(v x:AV):Option AS :=
 match gZ P T with
 | some (e,sz,bytes)=>match j6 s sz x with
  | some new=>match v with
   | .nils=>if has s.u d=true∨¬ (new.length≤maxLen∧new.length*bytes≤140737488355328) then none else some { t:=aZ d (.ref d) (cQ d s.t),o:=dJ d s.o,r:=aZ d ⟨e,sz,new⟩ s.r,u:=d::s.u }
   | .ref id=>match look id s.r with
    | some a=>if s.u.contains (cK id)=false∧a.e=e∧a.sz=sz∧a.l.length+new.length≤maxLen∧(a.l.length+new.length)*bytes≤140737488355328 then
      some { t:=aZ d (.ref id) (cQ id s.t),o:=dJ id s.o,r:=aZ id { a with l:=a.l++new } s.r,u:=s.u } else none
    | none=>none
   | _=>none
  | none=>none
 | none=>none
theorem DE{cx:Cx}{s:AS}{a:Act}{w:World}{ι:Env}(hsim:aN cx s a w ι){sz:Nat}{x:AV}{X:Value}{new:List (List AV)}(h:j6 s sz x=some new)(hx:Rel (NN cx.M ι) w ι x X):
  ∃A c,X=.slice A new.length c∧(∀e∈new,e.length=sz)∧(new=[]∨∃(ad:Addr) (vs:List Value),A=some ad∧vs.length=new.length*sz∧(∀(j:Nat) (u:Value),vs[j]?=some u→w.cell? (ad.add j)=some u)∧(∀u∈vs,u.oneCell'=true) ∧
   ∀(j:Nat) (e:List AV),new[j]?=some e→∀(i:Nat) (c:AV),e[i]?=some c→∃y,vs[j*sz+i]?=some y∧Rel (NN cx.M ι) w bn c y):=by
 unfold j6 at h;split at h
 ·injection h with h;subst h
  cases hx;exact⟨_,_,rfl,fun e he=>(by cases he),.inl rfl⟩
 ·rename_i l;split at h
  ·rename_i hall;injection h with h;subst h
   have hz:∀e∈l,e.length=sz:=fun e he=>by
    have:=List.all_eq_true.1 hall e he;simpa using this
   cases hx with
   | sl0 _ A c=>exact⟨A,c,rfl,hz,.inl rfl⟩
   | sl _ _ b o c sz0 val hz0 hb hn h1 hc hr _ =>
    refine⟨_,c,rfl,hz,?_⟩;by_cases hl:l=[]
    ·exact .inl hl
    ·right;have hsz0:sz0=sz:=by
      obtain⟨e,he⟩:=List.exists_mem_of_ne_nil l hl;rw[←hz0 e he,hz e he]
     subst hsz0;have hget:∀k,((List.range (l.length*sz0)).map fun k=>val (k / sz0) (k % sz0))[k]?=if k<l.length*sz0 then some (val (k / sz0) (k % sz0)) else none:=fun k=>by
      by_cases hk:k<l.length*sz0<;>simp[hk]
     have split2:∀k,k<l.length*sz0→0<sz0∧k / sz0<l.length∧k % sz0<sz0∧k / sz0*sz0+k % sz0=k:=fun k hk=>by
      have hpos : 0<sz0:=by
       rcases Nat.eq_zero_or_pos sz0 with h|h;· rw[h]at hk;omega
       ·exact h
      refine⟨hpos,(Nat.div_lt_iff_lt_mul hpos).2 hk,Nat.mod_lt _ hpos,?_⟩;rw[Nat.mul_comm];exact Nat.div_add_mod k sz0
     refine⟨⟨b,o,none⟩,_,rfl,(by simp:((List.range (l.length*sz0)).map fun k=>val (k / sz0) (k % sz0)).length=l.length*sz0),fun j u hj=>?_,fun u hu=>?_,fun j e he i c hi=>?_⟩
     ·rw[hget]at hj;split at hj
      ·rename_i hk;injection hj with hj;subst hj
       obtain⟨h0,h2,h3,h4⟩:=split2 j hk;have he:=List.getElem?_eq_getElem h2;have hel:=hz0 _ (List.getElem_mem h2);have:=hc _ _ he (j % sz0) _ (List.getElem?_eq_getElem (by rw[hel];exact h3));rw[Addr.add_mid];rw[Nat.add_assoc,h4]at this;exact this
      ·cases hj
     ·obtain⟨k,_,rfl⟩:=List.mem_map.1 hu;exact h1 _ _
     ·have hjl:j<l.length:=(List.getElem?_eq_some_iff.1 he).1;have hil:i<sz0:=by have:=(List.getElem?_eq_some_iff.1 hi).1;rwa[hz0 e (List.mem_of_getElem? he)]at this
      have hlt:j*sz0+i<l.length*sz0:=by
       have:(j+1)*sz0≤l.length*sz0:=Nat.mul_le_mul_right _ hjl;rw[Nat.add_mul,Nat.one_mul]at this;omega
      refine⟨val j i,?_,hr j e he i c hi⟩;rw[hget,if_pos hlt];have e1:(j*sz0+i) / sz0=j:=by rw[Nat.add_comm,Nat.add_mul_div_right _ _ (by omega),Nat.div_eq_of_lt hil,Nat.zero_add]
      have e2:(j*sz0+i) % sz0=i:=by rw[Nat.add_comm,Nat.add_mul_mod_self_right,Nat.mod_eq_of_lt hil]
      rw[e1,e2]
  ·cases h
 ·rename_i id;split at h
  ·rename_i ar har;split at h
   ·rename_i hsz;obtain⟨hsz,htg⟩:=hsz;injection h with h;subst h
    cases hx with
    | ref _ _ A n c hι =>
     obtain⟨v,xs,h1,h2,h3,h4,h5'⟩:=hsim.hs.arrs id ar har (by rw[hι];rfl);have h5:∀(j:Nat) (e:List AV),ar.l[j]?=some e→∀(i:Nat) (c:AV),e[i]?=some c→∃x,xs[j*ar.sz+i]?=some x∧Rel (NN cx.M ι) w bn c x:=fun j e he i c hc=>by
      obtain⟨x,hx,hr⟩:=h5' j e he i c hc;exact⟨x,hx,hr.flat (by omega)⟩
     rw[hι]at h1;injection h1 with h1;subst h1
     rw[hsz]at h3 h5 h2;obtain⟨hv,h0⟩|⟨g',cap,cur,hv,hb,hg,hle,hcap,hsize,htake⟩:=h2.2
     ·injection hv with hA hn hc'
      refine⟨A,c,?_,h3,.inl (List.eq_nil_of_length_eq_zero h0)⟩;rw[hn,h0]
     ·injection hv with hA hn hc'
      subst hA;subst hn;refine⟨_,c,rfl,h3,.inr ⟨⟨g',0,none⟩,xs,rfl,h2.1,h2.cells (g:=g') (by rfl),h4,h5⟩⟩
   ·cases h
  ·cases h
 ·cases h
theorem fM.grown{b:aE}{v w w':World}{row:Option Nat}(h:fM b v w)(hg:w.grownBy w' row)(hB:b.w.heap.size≤w.heap.size)(hr:∀k,row=some k→b.O k):fM b v w' :=
 h.trans ⟨hg.os,hg.tape,hg.output,hg.size,fun k hk hG=>hg.block k (by omega) (fun e=>(by rcases hr k e.symm with h1|h1;omega;exact hG h1))⟩
theorem HS.app{M:Nat→Prop}{w0:aE}{w w':World}{ι:Env}{s:AS}(h:HS M w0 w ι s){id:Nat}{ar:br}{v v':Value}{xs news:List Value}{new:List (List AV)}
  (hnp:w0.pv id=none) (har:look id s.r=some ar) (hι:ι id=some v) (hown:w.ownsRow 0 ar.e ar.sz v ar.l.length xs) (hel:∀e∈ar.l,e.length=ar.sz) (hone:∀x∈xs,x.oneCell'=true)
  (hcl:∀(j:Nat) (e:List AV),ar.l[j]?=some e→∀(i:Nat) (c:AV),e[i]?=some c→∃x,xs[j*ar.sz+i]?=some x∧ft (NN M ι) w (TG≤id) (ι (nm id (j*ar.sz+i))) c x)
  (hv:w.ownsRow 0 ar.e ar.sz v ar.l.length xs→w'.ownsRow 0 ar.e ar.sz v' (ar.l.length+new.length) (xs++news)) (hg:w.grownBy w' v.ownBlock) (hb:bm (some v')=bm (some v)∨bm (some v')=some w.heap.size)
  (hv':∃A k c,v'=.slice A k c) (hnz:∀e∈new,e.length=ar.sz) (hn1:∀x∈news,x.oneCell'=true)
  (hnl:∀(j:Nat) (e:List AV),new[j]?=some e→∀(i:Nat) (c:AV),e[i]?=some c→∃x,news[j*ar.sz+i]?=some x∧Rel (NN M ι) w bn c x) (hblt:∀g,bm (some v')=some g→w0.O g∧g<w'.heap.size) :
  HS M w0 w' (rep ι id v') { t:=cQ id s.t,o:=dJ id s.o,r:=aZ id { ar with l:=ar.l++new } s.r,u:=s.u } ∧
   (∀b,b<w.heap.size→NN M (rep ι id v') b→NN M ι b)∧(∀b,b<w.heap.size→¬ NN M ι b→w'.heap[b]?=w.heap[b]?):=by
 have hown':=hv hown;have hob:v.ownBlock=bm (some v):=by
  rcases hown.2 with⟨rfl,_⟩|⟨g,cap,cur,rfl,_⟩<;>rfl
 have bI:∀b,b<w.heap.size→¬ NN M ι b→w'.heap[b]?=w.heap[b]?:=fun b hlt hN=>hg.block b hlt (fun e=>hN (.inr ⟨id,by rw[hι,← hob];exact e.symm⟩));have hN:∀b,b<w.heap.size→NN M (rep ι id v') b→NN M ι b:=fun b hlt hh=>by
  rcases hh with hh|⟨i,hh⟩
  ·exact .inl hh
  ·by_cases e:i=id
   ·subst e;rw[im]at hh;rcases hb with hb|hb
    ·exact .inr ⟨i,by rw[hι,← hb];exact hh⟩
    ·rw[hb]at hh;injection hh with hh;omega
   ·rw[oH _ _ e]at hh;exact .inr ⟨i,hh⟩
 have hrep:∀i,i≠id→rep ι id v' i=ι i:=fun i hi=>oH _ _ hi;have hvm:∀r,v ≠ .map r:=fun r e=>by subst e;rcases hown.2 with⟨hv,_⟩|⟨_,_,_,hv,_⟩<;>cases hv
 have ho:∀k r,ι k=some (.map r)→rep ι id v' k=some (.map r):=fun k r hk=>by
  rw[hrep];exact hk;intro e;subst e;rw[hι]at hk;injection hk with hk;exact hvm _ hk
 have hmb:∀k r,ι k=some (.map (some r))→w'.heap[r]?=w.heap[r]?:=fun k r hk=>hg.block r (h.iJ hk) (fun e=>h.li hk hι hvm (by rw[←hob];exact e.symm));refine⟨⟨?_,h.old,fun i y hy=>?_,fun i g hg'=>?_,fun i i' g hg1 hg2=>?_,fun i cs hi=>?_,fun i a hi=>?_,fun i cs hi hp=>?_,fun i a hi hp=>?_,fun i y hp=>(by
  have e:i≠id:=fun e=>by subst e;rw[hnp]at hp;cases hp
  exact⟨(hrep i e).trans (h.pin i y hp).1,(h.pin i y hp).2⟩)⟩,hN,bI⟩
 ·refine h.below.grown hg h.below.size (fun k hk=>?_);have:=h.own id k (by rw[hι,← hob];exact hk);exact this.1
 ·by_cases e:i=id
  ·subst e;exact h.use i _ hι
  ·rw[hrep i e]at hy;exact h.use i y hy
 ·by_cases e:i=id
  ·subst e;rw[im]at hg';exact hblt g hg'
  ·rw[hrep i e]at hg';exact⟨(h.own i g hg').1,by have:=(h.own i g hg').2;have:=hg.size;omega⟩
 ·by_cases e:i=id
  ·by_cases e':i'=id
   ·omega
   ·subst e;rw[im]at hg1;rw[hrep i' e']at hg2;rcases hb with hb|hb
    ·exact h.inj i i' g (by rw[hι,← hb];exact hg1) hg2
    ·rw[hb]at hg1;injection hg1 with hg1;have:=(h.own i' g hg2).2;omega
  ·by_cases e':i'=id
   ·subst e';rw[im]at hg2;rw[hrep i e]at hg1;rcases hb with hb|hb
    ·exact h.inj i i' g hg1 (by rw[hι,← hb];exact hg2)
    ·rw[hb]at hg2;injection hg2 with hg2;have:=(h.own i g hg1).2;omega
   ·rw[hrep i e]at hg1;rw[hrep i' e']at hg2;exact h.inj i i' g hg1 hg2
 ·obtain⟨u,h1,_⟩:=gP hi;exact h.ko i u h1
 ·simp only[ca]at hi;by_cases e:i=id
  ·subst e;exact h.use i _ hι
  ·rw[if_neg e]at hi;exact h.kr i a hi
 ·obtain⟨u,h1,rfl⟩:=gP hi;have e:i≠id:=by
   rintro rfl
   obtain⟨g,T,vs,e1,_,_⟩:=h.objs i u h1 (by rw[hι];rfl);rw[hι]at e1;injection e1 with e1;subst e1
   rcases hown.2 with⟨hv,_⟩|⟨_,_,_,hv,_⟩<;>cases hv
  rw[hrep i e]at hp;obtain⟨g,T,vs,e1,e2,e3⟩:=h.objs i u h1 hp;have hne:some g≠v.ownBlock:=by
   rw[hob];intro e';exact e (h.inj i id g (by rw[e1];rfl) (by rw[hι];exact e'.symm))
  refine⟨g,T,vs,(hrep i e).trans e1,(hg.block g (h.own i g (by rw[e1];rfl)).2 hne).trans e2,by rw[jj];exact e3.len,e3.one,fun j x v hx hv=>?_⟩;obtain⟨y,hy,rfl⟩:=jk hx;exact((e3.rel j y v hy hv).co hrep).mono hg.size (fun b hlt hb=>hN b hlt hb) bI (fun _ _ h=>h)
 ·simp only[ca]at hi;by_cases e:i=id
  ·subst e;rw[if_pos rfl]at hi;injection hi with hi;subst hi
   refine⟨v',xs++news,im _ _ _,by simpa using hown',fun e he=>?_,fun x hx=>?_,fun j e he k c hk=>?_⟩
   ·rcases List.mem_append.1 he with he|he
    ·exact hel e he
    ·exact hnz e he
   ·rcases List.mem_append.1 hx with hx|hx
    ·exact hone x hx
    ·exact hn1 x hx
   ·simp only[]at he⊢;have hxl:xs.length=ar.l.length*ar.sz:=hown.1;by_cases hj:j<ar.l.length
    ·rw[List.getElem?_append_left hj]at he;obtain⟨x,hx,hr⟩:=hcl j e he k c hk;have hlt:=(List.getElem?_eq_some_iff.1 hx).1;exact⟨x,by rw[List.getElem?_append_left hlt];exact hx,hr.mono hg.size hN bI (ho _) (hmb _) (fun h=>h)⟩
    ·rw[List.getElem?_append_right (by omega)]at he;obtain⟨x,hx,hr⟩:=hnl _ e he k c hk;refine⟨x,?_,.inl (hr.mono hg.size hN bI (fun _ _ h=>h))⟩;have hm:ar.l.length*ar.sz≤j*ar.sz:=Nat.mul_le_mul_right _ (by omega);rw[List.getElem?_append_right (by omega),hxl];have e2:j*ar.sz+k-ar.l.length*ar.sz=(j-ar.l.length)*ar.sz+k:=by rw[Nat.sub_mul];omega
     rw[e2];exact hx
  ·rw[if_neg e]at hi;rw[hrep i e]at hp;obtain⟨v1,xs1,e1,e2,e3,e4,e5⟩:=h.arrs i a hi hp;refine⟨v1,xs1,(hrep i e).trans e1,eo e2 (fun g hg'=>?_),e3,e4,fun j el hj k c hk=>?_⟩
   ·have hne:some g≠v.ownBlock:=by
     rw[hob];intro e';exact e (h.inj i id g (by rw[e1];exact hg') (by rw[hι];exact e'.symm))
    exact hg.block g (h.own i g (by rw[e1];exact hg')).2 hne
   ·obtain⟨x,hx,hr⟩:=e5 j el hj k c hk;exact⟨x,hx,hr.mono hg.size hN bI (ho _) (hmb _) (fun h=>h)⟩
theorem Cf{α:Type}(k:Nat)(v u:α):∀(l:List (Nat×α)),aZ k v (aZ k u l)=aZ k v l
 | []=>by simp[aZ]
 | (j,x)::r=>by
  by_cases h:k=j
  ·subst h;simp[aZ]
  ·simp[aZ,h,Cf k v u r]
theorem HS.nil{M:Nat→Prop}{w0:aE}{w:World}{ι:Env}{s:AS}(h:HS M w0 w ι s){d:Nat}(hd:has s.u d=false)(e:TypeId)(sz:Nat):
  HS M w0 w (ext ι d (.slice none 0 0)) { s with r:=aZ d ⟨e,sz,[]⟩ s.r,u:=d::s.u }∧(∀b,NN M (ext ι d (.slice none 0 0)) b→NN M ι b):=by
 have hn:=h.free hd;have hN:∀b,NN M (ext ι d (.slice none 0 0)) b→NN M ι b:=fun b hb=>by
  rcases er hb with hb|hb
  ·exact hb
  ·cases hb
 have hbk:∀i g,bm (ext ι d (.slice none 0 0) i)=some g→bm (ι i)=some g:=fun i g hg=>by
  by_cases e:i=d
  ·subst e;rw[cr]at hg;cases hg
  ·rwa[bq _ _ e]at hg
 refine⟨⟨h.below,h.old,fun i y hy=>?_,fun i g hg=>h.own i g (hbk i g hg),fun i i' g hg hg'=>h.inj i i' g (hbk i g hg) (hbk i' g hg'),fun i cs hi=>eA (h.ko i cs hi),fun i a hi=>?_,fun i cs hi hp=>?_,fun i a hi hp=>?_,fun i y hp=>⟨dQ hn _ i y (h.pin i y hp).1,mI (h.pin i y hp).2⟩⟩,hN⟩
 ·by_cases e:i=d
  ·subst e;exact g8 _ _
  ·rw[bq _ _ e]at hy;exact eA (h.use i y hy)
 ·simp only[ca]at hi;by_cases e:i=d
  ·subst e;exact g8 _ _
  ·rw[if_neg e]at hi;exact eA (h.kr i a hi)
 ·have e:i≠d:=by rintro rfl;have:=h.ko i cs hi;rw[hd]at this;cases this
  rw[bq _ _ e]at hp;obtain⟨g,T,vs,e1,e2,e3⟩:=h.objs i cs hi hp;exact⟨g,T,vs,(bq _ _ e).trans e1,e2,e3.mono (Nat.le_refl _) (fun b _ hb=>hN b hb) (fun _ _ _=>rfl) (dQ hn _)⟩
 ·simp only[ca]at hi;by_cases e:i=d
  ·subst e;rw[if_pos rfl]at hi;injection hi with hi;subst hi
   exact⟨.slice none 0 0,[],cr _ _ _,World.ownsRow_nil _ _ _ _,fun e he=>(by cases he),fun x hx=>(by cases hx),fun j e he=>by simp at he⟩
  ·rw[if_neg e]at hi;rw[bq _ _ e]at hp;obtain⟨v1,xs1,e1,e2,e3,e4,e5⟩:=h.arrs i a hi hp;refine⟨v1,xs1,(bq _ _ e).trans e1,e2,e3,e4,fun j el hj k c hk=>?_⟩;obtain⟨x,hx,hr⟩:=e5 j el hj k c hk;exact⟨x,hx,hr.mono (Nat.le_refl _) (fun b _ hb=>hN b hb) (fun _ _ _=>rfl) (fun r h'=>dQ hn _ _ _ h') (fun _ _=>rfl) (fun h=>h)⟩
theorem T8{cx:Cx}{s s':AS}{a:Act}{w:World}{ι:Env}(hsim:aN cx s a w ι){d:Nat}(hd:d<cx.n){T ty:TypeId}{v x:AV}{V X:Value}(h:qD cx.P s d T v x=some s')(hv:Rel (NN cx.M ι) w ι v V)(hx:Rel (NN cx.M ι) w ι x X):
  ∃y w' ι',(Builtin.append_ #[T,T] ty #[V,X]).run cx.P w=.ok y w'∧aN cx s' (a.put (some d) y) w' ι'∧(∀i,i≠d→ι i=none→ι' i=none):=by
 unfold qD at h;split at h
 case h_2=>cases h
 rename_i e sz bytes hta;unfold gZ at hta;split at hta
 case h_2=>cases hta
 rename_i e' hu;split at hta
 case h_2=>cases hta
 rename_i ti hti;split at hta
 case h_2=>cases hta
 rename_i z hz;split at hta
 case isFalse=>cases hta
 rename_i hsz;injection hta with hta
 injection hta with he hta
 injection hta with hs1 hb1
 subst he;subst hs1;subst hb1;split at h
 case h_2=>cases h
 rename_i new hnew;obtain⟨A,c,rfl,hnz,hnews⟩:=DE hsim hnew hx
 -- the general step,for a slice that has a name
 have key:∀{s1:AS} {ι1:Env} {id:Nat} {ar:br},aN cx s1 a w ι1→cx.w0.pv id=none→look id s1.r=some ar→ι1 id=some V→ar.e=e'→ar.sz=ti.size→ar.l.length+new.length≤maxLen→(ar.l.length+new.length)*ti.bytes≤140737488355328 →
   (∀{y:AV} {Y:Value},y.cL []=true→Rel (NN cx.M ι) w ι y Y→Rel (NN cx.M ι1) w ι1 y Y)→(∀b,NN cx.M ι1 b→NN cx.M ι b) →
   ∃y w' ι',(Builtin.append_ #[T,T] ty #[V,.slice A new.length c]).run cx.P w=.ok y w'∧aN cx { t:=aZ d (.ref id) (cQ id s1.t),o:=dJ id s1.o,r:=aZ id { ar with l:=ar.l++new } s1.r,u:=s1.u } (a.put (some d) y) w' ι'∧(∀i,ι1 i=none→ι' i=none):=by
  intro s1 ι1 id ar hs1 hnp har hι1 hae has hlen hby _ hNN;obtain⟨v1,xs,h1,h2,h3,h4,h5⟩:=hs1.hs.arrs id ar har (by rw[hι1];rfl);rw[hι1]at h1;injection h1 with h1;subst h1
  have hno:∀(v':Value) (i:Nat),ι1 i=none→rep ι1 id v' i=none:=fun v' i hi=>by
   rw[oH];exact hi
   rintro rfl;rw[hι1]at hi;cases hi
  have fin:∀{v':Value} {w':World},(HS cx.M cx.w0 w' (rep ι1 id v') { t:=cQ id s1.t,o:=dJ id s1.o,r:=aZ id { ar with l:=ar.l++new } s1.r,u:=s1.u }∧(∀b,b<w.heap.size→NN cx.M (rep ι1 id v') b→NN cx.M ι1 b)∧(∀b,b<w.heap.size→¬ NN cx.M ι1 b→w'.heap[b]?=w.heap[b]?))→w.heap.size≤w'.heap.size→(∃A k c,v'=.slice A k c) →
    aN cx { t:=aZ d (.ref id) (cQ id s1.t),o:=dJ id s1.o,r:=aZ id { ar with l:=ar.l++new } s1.r,u:=s1.u } (a.put (some d) v') w' (rep ι1 id v'):=by
   intro v' w' ⟨g1,g2,g3⟩ hsz' ⟨A',k',c',hsh⟩;have hb:aN cx { t:=cQ id s1.t,o:=dJ id s1.o,r:=aZ id { ar with l:=ar.l++new } s1.r,u:=s1.u } a w' (rep ι1 id v'):=by
    refine⟨g1,hs1.dfr,hs1.n,fun k y hk=>?_⟩;obtain⟨u,hu1,rfl⟩:=lO hk;obtain⟨Y,hY,hr⟩:=hs1.tmp k u hu1;exact⟨Y,hY,(hr.co (fun i hi=>oH _ _ hi)).mono hsz' g2 g3 (fun _ _ h=>h)⟩
   subst hsh;exact hb.put (d:=some d) (fun k hk=>by injection hk with hk;subst hk;exact hd) (.ref _ _ _ _ _ (im _ _ _))
  subst hae;rcases hnews with hnil|⟨ad,vs,hA,hvl,hvc,hv1,hvr⟩
  ·subst hnil;have hrun:=Ud (P:=cx.P) w T ty ar.e ti hu hti 0 ar.sz V ar.l.length xs h2 A c;refine⟨V,w,rep ι1 id V,by simpa using hrun,fin ?_ (Nat.le_refl _) ?_,hno _⟩
   ·refine hs1.hs.app (news:=[]) hnp har hι1 h2 h3 h4 h5 (fun h=>by simpa using h) ⟨rfl,rfl,rfl,Nat.le_refl _,fun _ _ _=>rfl⟩ (.inl rfl) ?_ (fun e he=>by cases he) (fun x hx=>by cases hx) (fun j e he=>by simp at he) (fun g hg=>hs1.hs.own id g (by rw[hι1];exact hg));rcases h2.2 with⟨hv,_⟩|⟨g,cap,cur,hv,_⟩<;>exact⟨_,_,_,hv⟩
   ·rcases h2.2 with⟨hv,_⟩|⟨g,cap,cur,hv,_⟩<;>exact⟨_,_,_,hv⟩
  ·subst hA;obtain⟨v',w',hrun,ho',hg',hbk,hk,hsh⟩:=K3 (P:=cx.P) w 0 T ty ar.e ti z ar.sz ti.bytes hu hti hz has.symm rfl (by rw[has];exact hsz.1) (by rw[has];exact hsz.2) V ar.l.length xs h2 ad new.length c vs (by rw[has];exact hvl) hvc hv1 hlen hby (Nat.zero_le _);refine⟨v',w',rep ι1 id v',hrun,fin ?_ hg'.size hsh,hno _⟩;refine hs1.hs.app hnp har hι1 h2 h3 h4 h5 (fun _=>ho') hg' hbk hsh (by rw[has];exact hnz) hv1 (fun j e he i c hi=>?_) (fun g hg=>?_)
   ·rw[has];obtain⟨y,hy,hr⟩:=hvr j e he i c hi;exact⟨y,hy,hr.mono (Nat.le_refl _) (fun b _ hb=>hNN b hb) (fun _ _ _=>rfl) (fun _ _ h=>h)⟩
   ·obtain⟨hv0,_⟩|⟨g2,cap,cur,hv0,hbg,hgg,_⟩:=ho'.2
    ·rw[hv0]at hg;cases hg
    ·rw[hv0]at hg;injection hg with hg;simp only[]at hg;subst hg
     refine⟨?_,(Array.getElem?_eq_some_iff.1 hgg).1⟩;rw[hv0]at hbk;rcases hbk with e|e
     ·exact(hs1.hs.own id g2 (by rw[hι1,← e];rfl)).1
     ·have e':some g2=some w.heap.size:=e;injection e' with e';subst e'
      exact .inl hs1.hs.below.size
 split at h
 ·split at h
  ·cases h
  ·rename_i hcond;injection h with h;subst h
   have hc1:has s.u d=false:=by
    cases hcc:has s.u d
    ·rfl
    ·exact absurd (.inl hcc) hcond
   have hc2:new.length≤maxLen∧new.length*ti.bytes≤140737488355328:=by
    by_cases h':new.length≤maxLen∧new.length*ti.bytes≤140737488355328
    ·exact h'
    ·exact absurd (.inr h') hcond
   cases hv;obtain⟨hnil,hNN⟩:=hsim.hs.nil hc1 e' ti.size;have hn:=hsim.hs.free hc1;have hs1:aN cx { s with r:=aZ d ⟨e',ti.size,[]⟩ s.r,u:=d::s.u } a w (ext ι d (.slice none 0 0)) :=
    hsim.world hnil rfl (Nat.le_refl _) (fun b _ hb=>hNN b hb) (fun _ _ _=>rfl) (dQ hn _)
   obtain⟨y,w',ι',hrun,hfin,hno⟩:=key (id:=d) (ar:=⟨e',ti.size,[]⟩) hs1 (by cases hp:cx.w0.pv d with|none=>rfl|some y=>have:=(hsim.hs.pin d y hp).1;rw[hn]at this;cases this) (by simp[ca]) (cr _ _ _) rfl rfl (by simpa using hc2.1) (by simpa using hc2.2)
    (fun hp hr=>(hr.pure hp _).mono (Nat.le_refl _) (fun b _ hb=>hNN b hb) (fun _ _ _=>rfl) (fun _ _ h=>h)) hNN
   refine⟨y,w',ι',hrun,?_,fun i hi hn'=>hno i ((bq _ _ hi).trans hn')⟩;simpa[Cf]using hfin
 ·split at h
  ·rename_i id _ ar har;split at h
   ·rename_i hcond;injection h with h;subst h
    obtain⟨c0,c1,c2,c3,c4⟩:=hcond;cases hv with
    | ref _ _ A' n' c' hι =>
     obtain⟨y,w',ι',hrun,hfin,hno⟩:=key hsim (by cases hp:cx.w0.pv id with|none=>rfl|some y=>have:=(hsim.hs.pin id y hp).2;rw[c0]at this;cases this) har hι c1 c2 c3 c4 (fun hp hr=>hr) (fun b hb=>hb);exact⟨y,w',ι',hrun,hfin,fun i _ hi=>hno i hi⟩
   ·cases h
  ·cases h
 ·cases h
end Go.Proofs.YtocgkfoifehcbaaGreat

/- copy on abstract values. No program in sight. -/
import Derived.Test.YtocgkfoifehcbaaGreatRfAapp
import Derived.Test.YtocgkfoifehcbaaGreatRfAx
namespace Go.Proofs.YtocgkfoifehcbaaGreat
set_option linter.all false
open Go.RowKit
theorem D9:Array.range 0 = #[]:=rfl
def xd(n:Int)(bytes:Nat):Bool:=decide (0≤n)&&(decide (n≤9223372036854775807)&&decide (n.toNat*bytes≤140737488355328))
theorem PB{P:Program}(w:World)(t e:TypeId)(i:TypeInfo)(z:Value)(ht:P.underlying t=some (.slice e))(hi:P.info? e=some i)(hz:i.zero=some z)
  (kl kc:IntKind) (l:Int) (h0:0≤l) (h63:l≤9223372036854775807) (hroom:l.toNat*i.bytes≤140737488355328) (hpos:0<i.size) :
  (Instr.makeSlice t (.int kl l) (.int kc l)).run P w=.ok (.slice (some ⟨w.heap.size,0,none⟩) l.toNat l.toNat) (w.alloc (.cells ((Array.range (l.toNat*i.size)).map (z.cells[· % z.cells.size]!)) e)):=by
 have wl:IntKind.i64.wrap l=l:=by rw[IntKind.wrap_i64];omega
 have n1:¬ l<0:=by omega
 have n2:¬ (281474976710656<(i.bytes:Int)*l):=by
  have:(i.bytes:Int)*l=((l.toNat*i.bytes:Nat):Int):=by
   rw[Int.natCast_mul,Int.toNat_of_nonneg h0,Int.mul_comm]
  omega
 have n5:¬ (140737488355328<l.toNat*i.bytes):=by omega
 by_cases hn:l.toNat*i.size=0
 ·have hl0:l.toNat=0:=by
   rcases Nat.mul_eq_zero.1 hn with h|h
   ·exact h
   ·omega
  simp[Instr.makeSlice,run_underlying ht,asInt,asIntOf,typeInfo,hi,sizeOf,wl,n1,n2,n5,newRow,askRoom,roomBytes,hl0,D9]
 ·simp[Instr.makeSlice,run_underlying ht,asInt,asIntOf,typeInfo,hi,sizeOf,zeroValue,hz,wl,n1,n2,n5,newRow,askRoom,roomBytes];intro hh;exact absurd hh (by simpa using hn)
theorem Dx{P:Program}{N:Nat→Prop}(w:World){T e:TypeId}{sz bytes:Nat}{m:Int}{zc:List AV}(ht:gZ P T=some (e,sz,bytes))(hz:eg P e=some zc)(hb:xd m bytes=true)(kd kd':IntKind):
  ∃vs:List Value,(Instr.makeSlice T (.int kd m) (.int kd' m)).run P w=.ok (.slice (some ⟨w.heap.size,0,none⟩) m.toNat m.toNat) (w.alloc (.cells vs.toArray e))∧m.toNat≤maxLen∧vs.length=m.toNat*sz∧(∀c∈List.replicate m.toNat (zc.map fK),c.length=sz)∧(∀v∈vs,v.oneCell'=true) ∧
   ∀(j:Nat) (c:List AV),(List.replicate m.toNat (zc.map fK))[j]?=some c→∀(i:Nat) (x:AV),c[i]?=some x→∃v,vs[j*sz+i]?=some v∧Rel N w bn x v:=by
 simp only[xd,Bool.and_eq_true,decide_eq_true_eq]at hb;obtain⟨b0,b1,b2⟩:=hb;unfold gZ at ht;split at ht
 case h_2=>cases ht
 rename_i e' hu';split at ht
 case h_2=>cases ht
 rename_i ti hti;split at ht
 case h_2=>cases ht
 rename_i z hzz;split at ht
 case isFalse=>cases ht
 rename_i hsz;injection ht with ht;injection ht with h1 ht;injection ht with h2 h3
 subst h1;subst h2;subst h3;have hzc:j4 z.cells.toList=some zc:=by simpa[eg,hti,hzz]using hz
 have hcells:=(kI N w bn hzc);have hpz:=hcells.pz;have hrun:=PB w T e' ti z hu' hti hzz kd kd' m b0 b1 b2 hsz.2;have hlen:zc.length=ti.size:=by rw[hcells.len,← hsz.1];simp
 have hget:∀q,q<m.toNat*ti.size→((Array.range (m.toNat*ti.size)).map (z.cells[· % z.cells.size]!)).toList[q]?=z.cells.toList[q % ti.size]?:=fun q hq=>by
  have hm:q % ti.size<z.cells.size:=by rw[hsz.1];exact Nat.mod_lt _ hsz.2
  simp[hq,hsz.1];rw[getElem!_pos z.cells (q % ti.size) hm,Array.getElem?_eq_getElem hm]
 refine⟨((Array.range (m.toNat*ti.size)).map (z.cells[· % z.cells.size]!)).toList,by rw[Array.toArray_toList];exact hrun,by unfold maxLen;omega,by simp,fun c hc=>?_,fun v hv=>?_,fun j c hj i x hx=>?_⟩
 ·rw[(List.mem_replicate.1 hc).2,List.length_map,hlen]
 ·obtain⟨q,hq⟩:=List.getElem?_of_mem hv;have hlt:q<m.toNat*ti.size:=by have:=(List.getElem?_eq_some_iff.1 hq).1;simpa using this
  rw[hget q hlt]at hq;exact hcells.one v (List.mem_of_getElem? hq)
 ·rw[List.getElem?_replicate]at hj;split at hj
  ·rename_i hjn;injection hj with hj;subst hj
   have hi:i<ti.size:=by have:=(List.getElem?_eq_some_iff.1 hx).1;rw[List.length_map,hlen]at this;exact this
   have hq:j*ti.size+i<m.toNat*ti.size:=by
    have:(j+1)*ti.size≤m.toNat*ti.size:=Nat.mul_le_mul_right _ hjn;rw[Nat.add_mul,Nat.one_mul]at this;omega
   have hmod:(j*ti.size+i) % ti.size=i:=by rw[Nat.mul_comm,Nat.mul_add_mod,Nat.mod_eq_of_lt hi]
   rw[hget _ hq,hmod];have hv:=List.getElem?_eq_getElem (l:=z.cells.toList) (i:=i) (by rw[←hcells.len,hlen];exact hi);exact⟨_,hv,hpz.rel i x _ hx hv⟩
  ·cases hj
def oc(P:Program)(s:AS)(T:TypeId)(x y:Operand):Option AV :=
 match s.ev x,s.ev y,gZ P T with
 | some (.int _ m),some (.int _ m'),some (e,_,bytes)=>match eg P e with
  | some zc=>if m=m'∧xd m bytes=true then some (.sl (List.replicate m.toNat (zc.map fK))) else none
  | none=>none
 | _,_,_=>none
theorem Nf{cx:Cx}{s:AS}{a:Act}{w:World}{ι:Env}(hs:aN cx s a w ι){T:TypeId}{x y:Operand}{v:AV}(h:oc cx.P s T x y=some v):
  ∃X w',(Instr.makeSlice T (a.eval x) (a.eval y)).run cx.P w=.ok X w'∧aN cx s a w' ι∧Rel (NN cx.M ι) w' ι v X:=by
 unfold oc at h;split at h
 case h_2=>cases h
 rename_i kd m kd' m' e sz bytes hx hy ht;split at h
 case h_2=>cases h
 rename_i zc hz;split at h
 case isFalse=>cases h
 rename_i hc;obtain⟨rfl,hb⟩:=hc;injection h with h;subst h
 obtain⟨vs,hrun,q1,q2,q3,q4,q5⟩:=Dx (P:=cx.P) (N:=NN cx.M ι) w ht hz hb kd kd';refine⟨_,_,by rw[j9 hs hx,j9 hs hy];exact hrun,?_,?_⟩
 ·exact hs.world (hs.hs.fresh _) rfl (by simp) (fun b _ hb=>hb) (fun b hb _=>Below.heap_alloc _ _ _ hb) (fun _ _ h=>h)
 ·have:=FB (T:=e) hs.hs q3 q4 q5;simpa using this
theorem HS.JV{M:Nat→Prop}{w0:aE}{w:World}{ι:Env}{s:AS}(h:HS M w0 w ι s){id g n c:Nat}{ar:br}{l':List (List AV)}{xs':List Value}{cur:Array Value}{T:TypeId}
  (har:look id s.r=some ar) (hι:ι id=some (.slice (some ⟨g,0,none⟩) n c)) (hg:w.heap[g]?=some (.cells cur T (0,0))) (hl:l'.length=ar.l.length) (hz:∀e∈l',e.length=ar.sz) (hx:xs'.length=ar.l.length*ar.sz) (h1:∀x∈xs',x.oneCell'=true)
  (hc:∀(j:Nat) (e:List AV),l'[j]?=some e→∀(i:Nat) (c:AV),e[i]?=some c→∃x,xs'[j*ar.sz+i]?=some x∧ft (NN M ι) w (TG≤id) (ι (nm id (j*ar.sz+i))) c x) :
  HS M w0 (w.setRow g (xs'++cur.toList.drop xs'.length).toArray) ι ({ s with r:=aZ id { ar with l:=l' } s.r }):=by
 obtain⟨v,xs,e1,e2,e3,e4,e5⟩:=h.arrs id ar har (by rw[hι];rfl);rw[hι]at e1;injection e1 with e1;subst e1
 have hbg:bm (ι id)=some g:=by rw[hι];rfl
 obtain⟨hv,_⟩|⟨g',cap,cur',hv,hb,hg',hle,hcap,hsize,htake⟩:=e2.2
 ·cases hv
 injection hv with hA hn hcc
 injection hA with hA;injection hA with hA;subst hA;subst hcc
 rw[hg]at hg';injection hg' with hg';injection hg' with q1 q2 q3;subst q1;subst q2
 have hmul':ar.l.length*ar.sz≤c*ar.sz:=Nat.mul_le_mul_right _ hle;generalize hC:(xs'++cur.toList.drop xs'.length).toArray=C;have bI:∀b,b<w.heap.size→¬ NN M ι b→(w.setRow g C).heap[b]?=w.heap[b]?:=fun b _ hb=>du (fun e=>hb (.inr ⟨id,by rw[e];exact hbg⟩));obtain⟨ho,hlt⟩:=h.own id g hbg;refine⟨?_,h.old,h.use,fun i k hk=>?_,h.inj,h.ko,fun i a hi=>?_,fun i cs hi hp=>?_,fun i a hi hp=>?_,h.pin⟩
 ·exact h.below.trans ⟨rfl,rfl,rfl,by simp,fun k hk hG=>du (fun e=>by subst e;rcases ho with ho|ho;exact Nat.lt_irrefl _ (Nat.lt_of_lt_of_le hk ho);exact hG ho)⟩
 ·have:=h.own i k hk;simp;exact this
 ·simp only[ca]at hi;by_cases ei:i=id
  ·subst ei;exact h.use i _ hι
  ·rw[if_neg ei]at hi;exact h.kr i a hi
 ·obtain⟨g',T',vs1,h1,h2',h3'⟩:=h.objs i cs hi hp;have hne:g'≠g:=fun e'=>by
   have:=h.inj i id g (by rw[h1,e'];rfl) hbg;subst this;rw[h1]at hι;cases hι
  exact⟨g',T',vs1,h1,(du hne).trans h2',h3'.mono (by simp) (fun b _ hb=>hb) bI (fun _ _ h=>h)⟩
 ·simp only[ca]at hi;by_cases ei:i=id
  ·subst ei;rw[if_pos rfl]at hi;injection hi with hi;subst hi
   have hle2:xs'.length≤cur.toList.length:=by rw[hx,Array.length_toList,hsize];exact hmul'
   refine⟨_,xs',hι,⟨by simpa[hl]using hx,.inr ⟨g,c,C,by simp[hn,hl],hb,setRow_heap w g cur _ _ _ hg,by simpa[hl]using hle,hcap,?_,?_⟩⟩,hz,h1,fun j e hj k c' hk=>?_⟩
   ·rw[←hC];simp only[List.size_toArray,List.length_append,List.length_drop];rw[←Nat.add_sub_assoc hle2,Nat.add_sub_cancel_left,Array.length_toList];exact hsize
   ·rw[←hC];simp only[hl,← hx];rw[List.take_left'];rfl
   ·obtain⟨x,hx1,hr⟩:=hc j e hj k c' hk;exact⟨x,hx1,hr.mono (by simp) (fun b _ hb=>hb) bI (fun _ h=>h) (fun r hr'=>du (fun e=>h.li hr' hι (fun _ e=>by cases e) (by rw[e];rfl))) (fun h=>h)⟩
  ·rw[if_neg ei]at hi;obtain⟨v',xs1,h1',h2',h3',h4',h5'⟩:=h.arrs i a hi hp;refine⟨v',xs1,h1',eo h2' (fun g' hg'=>du ?_),h3',h4',fun j el hj k c hk'=>?_⟩
   ·intro e';subst e';exact ei (h.inj i id g' (by rw[h1'];exact hg') hbg)
   ·obtain⟨x,hx,hr⟩:=h5' j el hj k c hk';exact⟨x,hx,hr.mono (by simp) (fun b _ hb=>hb) bI (fun _ h=>h) (fun r hr'=>du (fun e=>h.li hr' hι (fun _ e=>by cases e) (by rw[e];rfl))) (fun h=>h)⟩
def ii{α:Type}(L:List α)(off m:Nat)(S:List α)(off2 m2:Nat):List α:=List.take off L++(List.take (min m2 m) (List.drop off2 S)++List.drop (off+min m2 m) L)
def Jk(off m n off2 m2 n2:Nat):Bool:=decide (off+m≤n)&&decide (off2+m2≤n2)
theorem VC{α:Type}(L:List α)(off m:Nat)(S:List α)(off2 m2:Nat)(h1:off+m≤L.length)(h2:off2+m2≤S.length):(ii L off m S off2 m2).length=L.length:=by
 unfold ii;simp only[List.length_append,List.length_take,List.length_drop];omega
theorem UW{α:Type}(L:List α)(off m:Nat)(S:List α)(off2 m2:Nat)(h1:off+m≤L.length)(h2:off2+m2≤S.length)(j:Nat):(ii L off m S off2 m2)[j]?=if j<off then L[j]? else if j<off+min m2 m then S[off2+(j-off)]? else L[j]?:=by
 have e1:(List.take off L).length=off:=by rw[List.length_take];omega
 have e2:(List.take (min m2 m) (List.drop off2 S)).length=min m2 m:=by rw[List.length_take,List.length_drop];omega
 unfold ii;by_cases g1:j<off
 ·rw[if_pos g1,List.getElem?_append_left (by omega),List.getElem?_take,if_pos g1]
 ·rw[if_neg g1,List.getElem?_append_right (by omega),e1];by_cases g2:j<off+min m2 m
  ·rw[if_pos g2,List.getElem?_append_left (by omega),List.getElem?_take,if_pos (by omega),List.getElem?_drop]
  ·rw[if_neg g2,List.getElem?_append_right (by omega),e2,List.getElem?_drop];congr 1;omega
section
variable{cx:Cx}{s:AS}
def jW(s:AS):AV→Option (Nat×TypeId×List (List AV)×Option (Nat×Nat))
 | .ref id=>match look id s.r with|some ⟨et,sz,l⟩=>(match Nat.beq sz 1&&Nat.ble (id+1) TG with|true=>some (id,et,l,none)|false=>none)|none=>none
 | .sref id sz off m=>match look id s.r with|some ⟨et,sz',l⟩=>(match (Nat.beq sz 1&&Nat.beq sz' 1)&&Nat.ble (id+1) TG with|true=>some (id,et,l,some (off,m))|false=>none)|none=>none
 | _=>none
def n0(s:AS):AV→Option (List (List AV)×Option (Nat×Nat))
 | .sl l=>some (l,none)
 | v=>(jW s v).map fun x=>(x.2.2.1,x.2.2.2)
def dS(o:Option (Nat×Nat))(n:Nat):Nat×Nat:=match o with|some q=>q|none=>(0,n)
theorem It{a:Act}{w:World}{ι:Env}(hs:aN cx s a w ι){u:AV}{X:Value}(hr:Rel (NN cx.M ι) w ι u X){id:Nat}{et:TypeId}{l:List (List AV)}{od:Option (Nat×Nat)}(h:jW s u=some (id,et,l,od)){off m:Nat}(ho:dS od l.length=(off,m)):
  id<TG∧look id s.r=some ⟨et,1,l⟩∧∃B c',X=.slice B m c'∧((m=0∧(B=none→c'=0∨True))∨∃g n c,ι id=some (.slice (some ⟨g,0,none⟩) n c)∧B=some ⟨g,off,none⟩)∧(B=none∨∃a,B=some a):=by
 have hB:∀B:Option Addr,B=none∨∃a,B=some a:=fun B=>by cases B with|none=>exact .inl rfl|some a=>exact .inr ⟨a,rfl⟩
 unfold jW at h;split at h
 ·split at h
  case h_2=>cases h
  rename_i et' sz l' hl;split at h
  case h_2=>cases h
  rename_i h1;rw[Bool.and_eq_true]at h1;have htg:=Nat.le_of_ble_eq_true h1.2;have h1:=Nat.eq_of_beq_eq_true h1.1;simp only[Option.some.injEq,Prod.mk.injEq]at h;obtain⟨rfl,rfl,rfl,rfl⟩:=h;subst h1;simp only[dS,Prod.mk.injEq]at ho;obtain⟨rfl,rfl⟩:=ho;refine⟨htg,hl,?_⟩;cases hr with
  | ref _ _ A n c hι =>
   obtain⟨v,xs,e1,e2,e3,e4,e5⟩:=hs.hs.arrs _ _ hl (by rw[hι];rfl);rw[hι]at e1;injection e1 with e1;subst e1
   obtain⟨hv,h0⟩|⟨g',cap,cur',hv,hb,hg',hle,hcap,hsize,htake⟩:=e2.2
   ·injection hv with hA hn hc'
    subst hA;subst hn;subst hc';exact⟨none,0,by simp only[]at h0⊢;rw[h0],.inl ⟨h0,fun _=>.inl rfl⟩,hB _⟩
   ·injection hv with hA hn hc'
    subst hA;subst hn;subst hc';exact⟨_,c,rfl,.inr ⟨g',_,c,hι,rfl⟩,hB _⟩
 ·split at h
  case h_2=>cases h
  rename_i et' sz' l' hl;split at h
  case h_2=>cases h
  rename_i h1;rw[Bool.and_eq_true,Bool.and_eq_true]at h1;have htg:=Nat.le_of_ble_eq_true h1.2;have h2:=Nat.eq_of_beq_eq_true h1.1.1;have h3:=Nat.eq_of_beq_eq_true h1.1.2;simp only[Option.some.injEq,Prod.mk.injEq]at h;obtain⟨rfl,rfl,rfl,rfl⟩:=h;subst h2;subst h3;simp only[dS,Prod.mk.injEq]at ho;obtain⟨rfl,rfl⟩:=ho;refine⟨htg,hl,?_⟩;cases hr with
  | sref _ _ _ _ _ n c c' A B hι hB' =>
   refine⟨B,c',rfl,?_,hB _⟩;rcases hB' with h0|⟨g,rfl,rfl,_⟩
   ·exact .inl ⟨h0,fun _=>.inr trivial⟩
   ·exact .inr ⟨g,n,c,hι,by simp⟩
 ·cases h
theorem MQ{a:Act}{w:World}{ι:Env}(hs:aN cx s a w ι){u:AV}{X:Value}(hr:Rel (NN cx.M ι) w ι u X){l:List (List AV)}{od:Option (Nat×Nat)}(h:n0 s u=some (l,od)){off m:Nat}(ho:dS od l.length=(off,m))(hz:∀e∈l,e.length=1)(hfit:off+m≤l.length):
  ∃A c',X=.slice A m c'∧∀k,k≤m→k=0∨∃(ad:Addr) (vs:List Value),A=some ad∧vs.length=k∧(∀(j:Nat) (u:Value),vs[j]?=some u→w.cell? (ad.add j)=some u)∧(∀x∈vs,x.oneCell'=true)∧∀(j:Nat),j<k→∀(e:List AV),l[off+j]?=some e→∀(i:Nat) (c:AV),e[i]?=some c→∃y,vs[j*1+i]?=some y∧Rel (NN cx.M ι) w bn c y:=by
 have own:∀{id:Nat} {et:TypeId},jW s u=some (id,et,l,od)→∃A c',X=.slice A m c'∧∀k,k≤m→k=0∨∃(ad:Addr) (vs:List Value),A=some ad∧vs.length=k∧(∀(j:Nat) (u:Value),vs[j]?=some u→w.cell? (ad.add j)=some u)∧(∀x∈vs,x.oneCell'=true)∧∀(j:Nat),j<k→∀(e:List AV),l[off+j]?=some e→∀(i:Nat) (c:AV),e[i]?=some c→∃y,vs[j*1+i]?=some y∧Rel (NN cx.M ι) w bn c y:=fun {id et} hd=>by
  obtain⟨htg,hl,B,c',rfl,hB,_⟩:=It hs hr hd ho;refine⟨B,c',rfl,fun k hk=>?_⟩;obtain⟨h0,_⟩|⟨g,n,c,hι,rfl⟩:=hB
  ·exact .inl (by omega)
  ·right;obtain⟨v,xs,e1,e2,e3,e4,e5'⟩:=hs.hs.arrs _ _ hl (by rw[hι];rfl);have e5:∀(j:Nat) (e:List AV),l[j]?=some e→∀(i:Nat) (c:AV),e[i]?=some c→∃x,xs[j*1+i]?=some x∧Rel (NN cx.M ι) w bn c x:=fun j e he i c hc=>by
    obtain⟨x,hx,hr⟩:=e5' j e he i c hc;exact⟨x,hx,hr.flat (by omega)⟩
   rw[hι]at e1;injection e1 with e1;subst e1
   have hcell:=e2.cells (g:=g) rfl;have hxl:=e2.1;simp only[Nat.mul_one]at hxl e5;refine⟨⟨g,off,none⟩,(xs.drop off).take k,rfl,by rw[List.length_take,List.length_drop];omega,fun j y hj=>?_,fun x hx=>e4 x (List.mem_of_mem_drop (List.mem_of_mem_take hx)),fun j hj e he i c hi=>?_⟩
   ·rw[List.getElem?_take]at hj;split at hj
    ·rw[List.getElem?_drop]at hj;have:=hcell _ _ hj;rw[Addr.add_mid]at this⊢;rw[Nat.zero_add]at this;exact this
    ·cases hj
   ·have hi0:i=0:=by
     have h2:=(List.getElem?_eq_some_iff.1 hi).1;rw[hz e (List.mem_of_getElem? he)]at h2;omega
    obtain⟨y,hy,hr⟩:=e5 _ e he i c hi;refine⟨y,?_,hr⟩;rw[List.getElem?_take,if_pos (by omega),List.getElem?_drop,Nat.mul_one,← Nat.add_assoc];exact hy
 unfold n0 at h;split at h
 ·rename_i l';simp only[Option.some.injEq,Prod.mk.injEq]at h;obtain⟨rfl,rfl⟩:=h;simp only[dS,Prod.mk.injEq]at ho;obtain⟨rfl,rfl⟩:=ho;have hne:j6 s 1 (.sl l')=some l':=by
   have ha:l'.all (fun e=>e.length == 1)=true:=List.all_eq_true.2 fun e he=>by simp[hz e he]
   simp only[j6,ha,if_true]
  obtain⟨A,c,rfl,_,hc⟩:=DE hs hne hr;refine⟨A,c,rfl,fun k hk=>?_⟩;by_cases h0:k=0
  ·exact .inl h0
  rcases hc with rfl|⟨ad,vs,rfl,h2,h3,h4,h5⟩
  ·simp at hk;exact .inl hk
  ·refine .inr ⟨ad,vs.take k,rfl,by rw[List.length_take];omega,fun j y hj=>?_,fun x hx=>h4 x (List.mem_of_mem_take hx),fun j hj e he i c hi=>?_⟩
   ·rw[List.getElem?_take]at hj;split at hj
    ·exact h3 j y hj
    ·cases hj
   ·have hi0:i=0:=by
     have h2:=(List.getElem?_eq_some_iff.1 hi).1;rw[hz e (List.mem_of_getElem? he)]at h2;omega
    rw[Nat.zero_add]at he;obtain⟨y,hy,hr⟩:=h5 j e he i c hi;exact⟨y,by rw[List.getElem?_take,if_pos (by omega)];exact hy,hr⟩
 ·cases hd:jW s u with
  | none=>rw[hd]at h;cases h
  | some q =>
   obtain⟨id,et,l',od'⟩:=q;rw[hd]at h;simp only[Option.map_some,Option.some.injEq,Prod.mk.injEq]at h;obtain⟨rfl,rfl⟩:=h;exact own hd
def oi(P:Program)(s:AS)(T:TypeId)(u v:AV):Option (AS×AV) :=
 match eI P T,jW s u,n0 s v with
 | some (et,sz),some (id,et',l,od),some (l2,os) =>
  if sz=1∧et=et'∧(∀e∈l,e.length=1)∧(∀e∈l2,e.length=1)∧Jk (dS od l.length).1 (dS od l.length).2 l.length (dS os l2.length).1 (dS os l2.length).2 l2.length=true then
   some ({ s with r:=aZ id ⟨et,1,ii l (dS od l.length).1 (dS od l.length).2 l2 (dS os l2.length).1 (dS os l2.length).2⟩ s.r },.int .i64 ((min (dS os l2.length).2 (dS od l.length).2:Nat):Int)) else none
 | _,_,_=>none
theorem Lk{a:Act}{w:World}{ι:Env}(hs:aN cx s a w ι){T T' ty:TypeId}{u v r:AV}{s':AS}(h:oi cx.P s T u v=some (s',r)){X Y:Value}(hXr:Rel (NN cx.M ι) w ι u X)(hYr:Rel (NN cx.M ι) w ι v Y):
  ∃y w',(Builtin.copy_ #[T,T'] ty #[X,Y]).run cx.P w=.ok y w'∧aN cx s' a w' ι∧Rel (NN cx.M ι) w' ι r y:=by
 unfold oi at h;split at h
 case h_2=>cases h
 rename_i et sz id et' l od l2 os ht hu hv;split at h
 case isFalse=>cases h
 rename_i hcond;obtain⟨c1,c2,hz,hz2,hc⟩:=hcond;subst c1;subst c2;injection h with h;injection h with e1 e2;subst e1;subst e2
 generalize hoff:(dS od l.length).1=off at *;generalize hm':(dS od l.length).2=m at *;generalize hoff2:(dS os l2.length).1=off2 at *;generalize hm2':(dS os l2.length).2=m2 at *;have ho:dS od l.length=(off,m):=by rw[←hoff,← hm']
 have hos:dS os l2.length=(off2,m2):=by rw[←hoff2,← hm2']
 simp only[Jk,Bool.and_eq_true,decide_eq_true_eq]at hc;obtain⟨hc1,hc2⟩:=hc;obtain⟨htg,hlk,B,c',rfl,hB,hBs⟩:=It (off:=off) (m:=m) hs hXr hu ho;obtain⟨A,c2,rfl,hcs⟩:=MQ (off:=off2) (m:=m2) hs hYr hv hos hz2 hc2;unfold eI at ht;split at ht
 case h_2=>cases ht
 rename_i e' hu';cases hin:cx.P.info? e' with
 | none=>simp[bU,hin]at ht
 | some ie =>
  simp only[bU,hin,Option.map_some,Option.some.injEq,Prod.mk.injEq]at ht;obtain⟨rfl,hsz0⟩:=ht;have hmin:Nat.min m2 m=min m2 m:=rfl;by_cases h0:min m2 m=0
  ·-- nothing is copied
   have hL:ii l off m l2 off2 m2=l:=by unfold ii;rw[h0];simp
   have hrun:(Builtin.copy_ #[T,T'] ty #[.slice B m c',.slice A m2 c2]).run cx.P w=.ok (goInt 0) w:=by
    have hz0:∀a:Addr,(loadCells a 0).run cx.P w=.ok #[] w:=fun a=>by simp[loadCells,loadCellsFrom]
    cases A with
    | none=>cases B with
     | none=>simp[Builtin.copy_,run_underlying hu',Builtin.lenOf,Builtin.firstCells,sizeOf,typeInfo,hin,hmin,h0]
     | some b=>simp[Builtin.copy_,run_underlying hu',Builtin.lenOf,Builtin.firstCells,sizeOf,typeInfo,hin,hmin,h0,storeCells]
    | some a=>cases B with
     | none=>simp[Builtin.copy_,run_underlying hu',Builtin.lenOf,Builtin.firstCells,sizeOf,typeInfo,hin,hmin,h0,hz0]
     | some b=>simp[Builtin.copy_,run_underlying hu',Builtin.lenOf,Builtin.firstCells,sizeOf,typeInfo,hin,hmin,h0,hz0,storeCells]
   rw[hL,h0];have hs2:aN cx { s with r:=aZ id ⟨e',1,l⟩ s.r } a w ι:=by
    refine⟨⟨hs.hs.below,hs.hs.old,hs.hs.use,hs.hs.own,hs.hs.inj,hs.hs.ko,fun j ar hj=>?_,hs.hs.objs,fun j ar hj hp=>?_,hs.hs.pin⟩,hs.dfr,hs.n,hs.tmp⟩
    ·simp only[ca]at hj;split at hj
     ·rename_i e;subst e;exact hs.hs.kr j _ hlk
     ·exact hs.hs.kr j ar hj
    ·simp only[ca]at hj;split at hj
     ·rename_i e;subst e;injection hj with hj;subst hj;exact hs.hs.arrs j _ hlk hp
     ·exact hs.hs.arrs j ar hj hp
   exact⟨_,w,hrun,hs2,.int _ _ _⟩
  ·rcases hcs (min m2 m) (Nat.min_le_left _ _)with h0'|⟨ad,vs,rfl,hvl,hvc,hv1,hvr⟩
   ·exact absurd h0' h0
   obtain⟨hm0,_⟩|⟨g,n,c,hι,rfl⟩:=hB
   ·omega
   obtain⟨v1,xs,e1,e2,e3,e4,e5⟩:=hs.hs.arrs _ _ hlk (by rw[hι];rfl);rw[hι]at e1;injection e1 with e1;subst e1
   obtain⟨hv0,_⟩|⟨g',cap,cur,hv0,hb,hgc,hle,hcap,hsize,htake⟩:=e2.2
   ·cases hv0
   injection hv0 with hA hn hcc
   injection hA with hA;injection hA with hA;subst hA;subst hcc
   have hxl:=e2.1;simp only[Nat.mul_one]at hxl hsize htake hle hn e5;have hfit:off+vs.length≤cur.size:=by omega
   have hrun:=run_copy_row (P:=cx.P) w T T' ty e' g off m c' ad m2 c2 cur e' vs hu' (by rw[hin];simp[hsz0]) hgc hvl hvc hfit hv1;have hxx:(xs.take off++vs++xs.drop (off+vs.length)).length=l.length:=by rw[jZ _ _ _ (by omega)];exact hxl
   have hC:cur.toList.take off++vs++cur.toList.drop (off+vs.length)=(xs.take off++vs++xs.drop (off+vs.length))++cur.toList.drop (xs.take off++vs++xs.drop (off+vs.length)).length:=by
    apply List.ext_getElem?;intro j;have ht:∀j,xs[j]?=if j<l.length then cur.toList[j]? else none:=fun j=>by rw[←htake,List.getElem?_take]
    rw[gS _ _ _ (by rw[Array.length_toList];exact hfit),hxx];by_cases hj:j<l.length
    ·rw[List.getElem?_append_left (by omega),gS _ _ _ (by omega),ht j,if_pos hj]
    ·rw[List.getElem?_append_right (by omega),hxx,List.getElem?_drop,if_neg (by omega),if_neg (by omega)];congr 1;omega
   have hset:=hs.hs.JV (l':=ii l off m l2 off2 m2) (xs':=xs.take off++vs++xs.drop (off+vs.length)) hlk hι hgc (by rw[VC _ _ _ _ _ _ hc1 hc2]) (fun e he=>by
     unfold ii at he;rcases List.mem_append.1 he with he|he
     ·exact hz e (List.mem_of_mem_take he)
     ·rcases List.mem_append.1 he with he|he
      ·exact hz2 e (List.mem_of_mem_drop (List.mem_of_mem_take he))
      ·exact hz e (List.mem_of_mem_drop he)) (by simpa using hxx) (fun x hx=>by
     rcases List.mem_append.1 hx with hx|hx
     ·rcases List.mem_append.1 hx with hx|hx
      ·exact e4 x (List.mem_of_mem_take hx)
      ·exact hv1 x hx
     ·exact e4 x (List.mem_of_mem_drop hx)) (fun j e he i' c0 hc0=>by
     rw[UW _ _ _ _ _ _ hc1 hc2]at he;simp only[Nat.mul_one];have hi0:e.length=1→i'=0:=fun hm=>by
      have h2:=(List.getElem?_eq_some_iff.1 hc0).1;omega
     split at he
     ·rename_i hj;have:=hi0 (hz e (List.mem_of_getElem? he));subst this;rw[gS _ _ _ (by omega),Nat.add_zero,if_pos hj];have:=e5 j e he 0 c0 hc0;simpa using this
     ·rename_i hj;split at he
      ·rename_i hj2;have:=hi0 (hz2 e (List.mem_of_getElem? he));subst this;rw[gS _ _ _ (by omega),Nat.add_zero,if_neg hj,if_pos (by omega)];obtain⟨y,hy,hr⟩:=hvr (j-off) (by omega) e (by simpa using he) 0 c0 hc0;exact⟨y,by simpa using hy,.inl hr⟩
      ·rename_i hj2;have:=hi0 (hz e (List.mem_of_getElem? he));subst this;rw[gS _ _ _ (by omega),Nat.add_zero,if_neg hj,if_neg (by omega)];have:=e5 j e he 0 c0 hc0;simpa using this)
   rw[←hC]at hset;have hbg:bm (ι id)=some g:=by rw[hι];rfl
   have hs2:aN cx { s with r:=aZ id ⟨e',1,ii l off m l2 off2 m2⟩ s.r } a (w.setRow g (cur.toList.take off++vs++cur.toList.drop (off+vs.length)).toArray) ι :=
    hs.world hset rfl (by simp) (fun b _ hb=>hb) (fun b _ hb=>du (fun e=>hb (.inr ⟨id,by rw[e];exact hbg⟩))) (fun _ _ h=>h)
   refine⟨_,_,hrun,hs2,?_⟩;rw[hvl];exact .int _ _ _
end
end Go.Proofs.YtocgkfoifehcbaaGreat

/- The operations on abstract values, third part: new variables, literals, len, max, min; all operations in one function. No program in sight. -/
import Derived.Test.YtocgkfoifehcbaaGreatRfAop2
import Derived.Laws.Tables
import Derived.Great.BuildSlice
namespace Go.Proofs.YtocgkfoifehcbaaGreat
set_option linter.all false
open Go.RowKit
theorem MT(l:List Value):∀(off:Nat) (cs:Array Value),off+l.length≤cs.size →
  ((l.zipIdx off).foldl (fun (a:Array Value) (x:Value×Nat)=>a.setIfInBounds x.2 x.1) cs).toList=cs.toList.take off++l++cs.toList.drop (off+l.length):=by
 induction l with
 | nil=>intro off cs _;simp
 | cons v r ih =>
  intro off cs h;simp only[List.length_cons]at h;simp only[List.zipIdx_cons,List.foldl_cons];rw[ih (off+1) _ (by simp;omega)];simp only[Array.toList_setIfInBounds,List.length_cons];have hlt:off<cs.toList.length:=by simp;omega
  have h1:(cs.toList.set off v).take (off+1)=cs.toList.take off++[v]:=by
   rw[List.take_succ_eq_append_getElem (by simpa using hlt),List.take_set,List.set_eq_of_length_le (by rw[List.length_take];omega)];simp
  have h2:(cs.toList.set off v).drop (off+1+r.length)=cs.toList.drop (off+(r.length+1)):=by
   rw[List.drop_set,if_pos (by omega)];congr 1;omega
  rw[h1,h2];simp
theorem Ef(cs f:Array Value)(off:Nat)(h:off+f.size≤cs.size):
  (f.zipIdx.foldl (fun (a:Array Value) (x:Value×Nat)=>a.setIfInBounds (off+x.2) x.1) cs)=(cs.toList.take off++f.toList++cs.toList.drop (off+f.toList.length)).toArray:=by
 have e:=MT f.toList off cs (by simpa using h);rw[←Array.foldl_toList];simp only[Array.toList_zipIdx];have key:∀(l:List Value) (k:Nat) (a:Array Value),(l.zipIdx k).foldl (fun (a:Array Value) (x:Value×Nat)=>a.setIfInBounds (off+x.2) x.1) a=(l.zipIdx (off+k)).foldl (fun (a:Array Value) (x:Value×Nat)=>a.setIfInBounds x.2 x.1) a:=by
  intro l
  induction l with
  | nil=>intro k a;rfl
  | cons v r ih=>intro k a;simp only[List.zipIdx_cons,List.foldl_cons];rw[ih];rfl
 rw[key,Nat.add_zero];apply Array.toList_inj.1;rw[e]
def tM(pl:List (Nat×Nat))(cs:List AV):List (Nat×AV)→Option (List AV)
 | []=>some cs
 | (i,v)::r=>match pl[i]?,gu v with
  | some (off,sz),some nv=>if nv.length=sz∧off+nv.length≤cs.length then tM pl (fW off nv cs) r else none
  | _,_=>none
def ib(s:AS):List (Nat×Operand)→Option (List (Nat×AV))
 | []=>some []
 | (i,x)::r=>match s.ev x,ib s r with|some v,some l=>some ((i,v)::l)|_,_=>none
theorem y5{N:Nat→Prop}{w:World}{ι:Env}{pl:List (Nat×Nat)}{place:Nat→Option (Nat×Nat)}(hpl:∀i os,pl[i]?=some os→place i=some os):∀{ps:List (Nat×AV)} {qs:List (Nat×Value)} {cs cs':List AV} {zs:Array Value},Cells N w ι cs zs.toList →
  ps.length=qs.length→(∀(i:Nat) (p:Nat×AV) (q:Nat×Value),ps[i]?=some p→qs[i]?=some q→p.1=q.1∧Rel N w ι p.2 q.2)→tM pl cs ps=some cs'→∃zs',Instr.fill place zs qs=some zs'∧Cells N w ι cs' zs'.toList
 | [],[],cs,cs',zs,hc,_,_,h=>by injection h with h;subst h;exact⟨zs,rfl,hc⟩
 | [],_::_,_,_,_,_,hl,_,_=>by simp at hl
 | _::_,[],_,_,_,_,hl,_,_=>by simp at hl
 | (i,v)::ps,(j,x)::qs,cs,cs',zs,hc,hl,hr,h=>by
  obtain⟨e1,e2⟩:=hr 0 (i,v) (j,x) rfl rfl;simp only[]at e1 e2;subst e1;simp only[tM]at h;cases hp0:pl[i]? with
  | none=>rw[hp0]at h;cases h
  | some os =>
   have hp:=hpl i os hp0;obtain⟨off,sz⟩:=os;cases hv:gu v with
   | none=>rw[hp0,hv]at h;cases h
   | some nv =>
    rw[hp0,hv]at h;simp only[]at h;split at h
    ·rename_i hcond;have hn:=qF hv e2;have hcl:=hc.len;have hnl:=hn.len;simp only[Array.length_toList]at hcl hnl;have hsp:=hc.fW hn hcond.2;obtain⟨zs',h1,h2⟩:=y5 hpl (zs:=(zs.toList.take off++x.cells.toList++zs.toList.drop (off+x.cells.toList.length)).toArray) (by simpa using hsp) (by simpa using hl) (fun k p q hp' hq'=>hr (k+1) p q (by simpa using hp') (by simpa using hq')) h;refine⟨zs',?_,h2⟩;unfold Instr.fill;rw[hp];simp only[];rw[if_neg (by simp;omega),Ef zs x.cells off (by omega)];exact h1
    ·cases h
theorem w5{cx:Cx}{s:AS}{a:Act}{w:World}{ι:Env}(h:aN cx s a w ι):∀{ps:List (Nat×Operand)} {l:List (Nat×AV)},ib s ps=some l→l.length=(ps.map fun y=>(y.1,a.eval y.2)).length ∧
  ∀(i:Nat) (p:Nat×AV) (q:Nat×Value),l[i]?=some p→(ps.map fun y=>(y.1,a.eval y.2))[i]?=some q→p.1=q.1∧Rel (NN cx.M ι) w ι p.2 q.2
 | [],l,e=>by injection e with e;subst e;exact⟨rfl,fun i p q hp _=>by simp at hp⟩
 | (i,x)::r,l,e=>by
  unfold ib at e;cases h1:s.ev x with
  | none=>rw[h1]at e;cases e
  | some v =>
   cases h2:ib s r with
   | none=>rw[h1,h2]at e;cases e
   | some l' =>
    rw[h1,h2]at e;injection e with e;subst e
    obtain⟨e1,e2⟩:=w5 h h2;refine⟨by simp at e1;simp[e1],fun k p q hp hq=>?_⟩;cases k with
    | zero=>simp at hp hq;subst hp;subst hq;exact⟨rfl,h.ev h1⟩
    | succ k=>exact e2 k p q (by simpa using hp) (by simpa using hq)
def oF(P:Program)(s:AS)(T:TypeId)(parts:List (Nat×Operand)):Option AV :=
 match B9 P T,eg P T,ib s parts with
 | some pl,some z,some ps=>(tM pl z ps).map .agg
 | _,_,_=>none
theorem V6{cx:Cx}{s:AS}{a:Act}{w:World}{ι:Env}(hsim:aN cx s a w ι){T:TypeId}{parts:Array (Nat×Operand)}{v:AV}(h:oF cx.P s T parts.toList=some v):
  ∃x,(Instr.build T (parts.map fun (i,x)=>(i,a.eval x))).run cx.P w=.ok x w∧Rel (NN cx.M ι) w ι v x:=by
 unfold oF at h;cases hp:B9 cx.P T with
 | none=>rw[hp]at h;cases h
 | some pl =>
  cases hz:eg cx.P T with
  | none=>rw[hp,hz]at h;cases h
  | some z =>
   cases hq:ib s parts.toList with
   | none=>rw[hp,hz,hq]at h;cases h
   | some ps =>
    simp only[hp,hz,hq]at h;cases hf:tM pl z ps with
    | none=>simp[hf]at h
    | some cs =>
     simp only[hf,Option.map_some,Option.some.injEq]at h;subst h;obtain⟨q1,q2⟩:=w5 hsim hq;unfold eg at hz;cases hit:cx.P.info? T with
     | none=>simp[hit]at hz
     | some it =>
      cases hzz:it.zero with
      | none=>simp[hit,hzz]at hz
      | some zv =>
       simp only[hit,Option.bind_some,hzz]at hz;have hl:(parts.map fun (y:Nat×Operand)=>(y.1,a.eval y.2)).toList=parts.toList.map fun y=>(y.1,a.eval y.2):=Array.toList_map;have hex:∃zs',cx.P.built T (parts.map fun (y:Nat×Operand)=>(y.1,a.eval y.2)).toList=some zs'∧Cells (NN cx.M ι) w ι cs zs'.toList:=by
        rw[hl];unfold Program.built;unfold B9 at hp;cases hu:cx.P.underlying T with
        | none=>simp[hu]at hp
        | some d =>
         cases d<;>try (simp[hu]at hp;done)
         case array n e =>
          cases hie:cx.P.info? e with
          | none=>simp[hu,bU,hie]at hp
          | some ie =>
           simp only[hu,bU,hie,Option.map_some,Option.some.injEq]at hp;subst hp;simp only[hit,hzz,hie];refine y5 (fun i os hi=>?_) (zs:=zv.cells) (kI (NN cx.M ι) w ι hz) q1 q2 hf;rw[List.getElem?_map]at hi;cases hr:(List.range n)[i]? with
           | none=>rw[hr]at hi;cases hi
           | some k =>
            rw[hr]at hi;injection hi with hi;subst hi
            have:=(List.getElem?_eq_some_iff.1 hr).2;simp at this;subst this;rfl
         case struct fields =>
          simp only[hu,bU,Option.map_map]at hp;have hm:fields.toList.mapM (fun f=>(cx.P.info? f.type).map fun i=>(f.offset,i.size))=some pl:=hp;simp only[hit,hzz,hm];exact y5 (fun i os hi=>by simpa using hi) (zs:=zv.cells) (kI (NN cx.M ι) w ι hz) q1 q2 hf
       obtain⟨zs',hb,f2⟩:=hex;refine⟨_,run_build w T _ zs' hb,?_⟩;have:=Rel.agg (N:=NN cx.M ι) (w:=w) ι cs zs'.toList f2.len f2.one f2.rel;simpa using this
def fK:AV→AV
 | .nils=>.sl []
 | v=>v
theorem Kv{N:Nat→Prop}{w:World}{ι:Env}{v:AV}{x:Value}(h:Rel N w ι v x):Rel N w ι (fK v) x:=by
 cases h<;>first|exact .sl0 _ _ _|(simp only[fK];constructor<;>assumption)
theorem Cells.pz{N:Nat→Prop}{w:World}{ι:Env}{cs:List AV}{vs:List Value}(h:Cells N w ι cs vs):Cells N w ι (cs.map fK) vs :=
 ⟨by simpa using h.len,h.one,fun i x v hx hv=>by
  rw[List.getElem?_map]at hx;cases e:cs[i]? with
  | none=>rw[e]at hx;cases hx
  | some c=>rw[e]at hx;injection hx with hx;subst hx;exact Kv (h.rel i c v e hv)⟩
def Sb:Nat:=900000
def o4(z:Bool)(cs:List AV):List AV:=match z with
 | true=>cs
 | false=>cs.map fK
theorem Cells.o4{N:Nat→Prop}{w:World}{ι:Env}{cs:List AV}{vs:List Value}(h:Cells N w ι cs vs)(z:Bool):Cells N w ι (o4 z cs) vs:=by
 cases z
 ·exact h.pz
 ·exact h
theorem KF(z:Bool)(cs:List AV):(o4 z cs).length=cs.length:=by cases z<;>simp[o4]
def qn(z:Bool)(sz k:Nat):List (Nat×AV)→Option (List (List AV))
 | []=>some []
 | (i,v)::r=>match gu v,qn z sz (k+1) r with
  | some nv,some l=>if i=k∧nv.length=sz∧db [] nv=true then some (o4 z nv::l) else none
  | _,_=>none
theorem zK{N:Nat→Prop}{w:World}{ι:Env}{sz:Nat}{z:Bool}:∀{ps:List (Nat×AV)} {qs:List (Nat×Value)} {k:Nat} {zs:Array Value} {l:List (List AV)},
  ps.length=qs.length→(∀(i:Nat) (p:Nat×AV) (q:Nat×Value),ps[i]?=some p→qs[i]?=some q→p.1=q.1∧Rel N w ι p.2 q.2)→qn z sz k ps=some l→(k+ps.length)*sz≤zs.size →
  ∃zs' ys,Instr.fill (fun i=>some (i*sz,sz)) zs qs=some zs'∧zs'.toList=zs.toList.take (k*sz)++ys++zs.toList.drop ((k+ps.length)*sz)∧ys.length=ps.length*sz∧l.length=ps.length∧(∀e∈l,e.length=sz)∧(∀y∈ys,y.oneCell'=true) ∧
   (∀(j:Nat) (e:List AV),l[j]?=some e→∀(i:Nat) (x:AV),e[i]?=some x→∃v,ys[j*sz+i]?=some v∧Rel N w bn x v)
 | [],[],k,zs,l,_,_,h,_=>by
  injection h with h;subst h
  exact⟨zs,[],rfl,by simp,by simp,rfl,fun e he=>(by cases he),fun y hy=>(by cases hy),fun j e he=>by simp at he⟩
 | [],_::_,_,_,_,hl,_,_,_=>by simp at hl
 | _::_,[],_,_,_,hl,_,_,_=>by simp at hl
 | (i,v)::ps,(j,x)::qs,k,zs,l,hl,hr,h,hz=>by
  obtain⟨e1,e2⟩:=hr 0 (i,v) (j,x) rfl rfl;simp only[]at e1 e2;subst e1;simp only[qn]at h;cases hv:gu v with
  | none=>rw[hv]at h;cases h
  | some nv =>
   cases hl':qn z sz (k+1) ps with
   | none=>rw[hv,hl']at h;cases h
   | some l' =>
    rw[hv,hl']at h;simp only[]at h;split at h
    ·rename_i hcond;obtain⟨rfl,c2,c3⟩:=hcond;injection h with h;subst h
     have hn:=qF hv e2;have hnl:=hn.len;simp only[Array.length_toList]at hnl;simp only[List.length_cons]at hz hl;have hz2:(i+1+ps.length)*sz≤zs.size:=by rw[show i+1+ps.length=i+(ps.length+1) by omega];exact hz
     have hi1:(i+1)*sz=i*sz+sz:=by rw[Nat.add_mul,Nat.one_mul]
     have hi2:(i+1)*sz≤zs.size:=Nat.le_trans (Nat.mul_le_mul_right _ (by omega)) hz2;have hsz:(zs.toList.take (i*sz)++x.cells.toList++zs.toList.drop (i*sz+x.cells.toList.length)).toArray.size=zs.size:=by
      rw[List.size_toArray,jZ _ _ _ (by simp;omega),Array.length_toList]
     obtain⟨zs',ys,f1,f2,f3,f4,f5,f6,f7⟩:=zK (zs:=(zs.toList.take (i*sz)++x.cells.toList++zs.toList.drop (i*sz+x.cells.toList.length)).toArray) (ps:=ps) (qs:=qs) (k:=i+1) (by omega)
      (fun k p q hp' hq'=>hr (k+1) p q (by simpa using hp') (by simpa using hq')) hl' (by rw[hsz];exact hz2)
     refine⟨zs',x.cells.toList++ys,?_,?_,?_,by simp[f4],?_,?_,?_⟩
     ·unfold Instr.fill;simp only[];rw[if_neg (by simp;omega),Ef zs x.cells (i*sz) (by omega)];exact f1
     ·rw[f2];have hx:x.cells.toList.length=sz:=by simp;omega
      have t1:(zs.toList.take (i*sz)).length=i*sz:=by rw[List.length_take,Array.length_toList];omega
      have a1:((zs.toList.take (i*sz)++x.cells.toList++zs.toList.drop (i*sz+x.cells.toList.length)).toArray.toList).take ((i+1)*sz)=zs.toList.take (i*sz)++x.cells.toList:=by
       rw[List.take_append_of_le_length (by rw[List.length_append];omega)];rw[List.take_of_length_le (by rw[List.length_append];omega)]
      have a2:((zs.toList.take (i*sz)++x.cells.toList++zs.toList.drop (i*sz+x.cells.toList.length)).toArray.toList).drop ((i+1+ps.length)*sz)=zs.toList.drop ((i+(ps.length+1))*sz):=by
       have hm:(i+1+ps.length)*sz=(i+1)*sz+ps.length*sz:=by rw[Nat.add_mul]
       rw[List.drop_append,List.drop_eq_nil_of_le (by rw[List.length_append];omega),List.nil_append,List.drop_drop,List.length_append,t1,hx];congr 1;rw[show i+(ps.length+1)=i+1+ps.length by omega];omega
      rw[a1,a2];simp
     ·rw[List.length_append,f3,List.length_cons,Nat.add_mul,Nat.one_mul,Array.length_toList];omega
     ·intro e he;rcases List.mem_cons.1 he with rfl|he
      ·rw[KF];exact c2
      ·exact f5 e he
     ·intro y hy;rcases List.mem_append.1 hy with hy|hy
      ·exact hn.one y hy
      ·exact f6 y hy
     ·intro j e he i' c hc;cases j with
      | zero =>
       simp at he;subst he;have hcp:=(hn.Di c3 bn).o4 z;have hi':i'<x.cells.toList.length:=by have:=(List.getElem?_eq_some_iff.1 hc).1;rw[hcp.len]at this;exact this
       refine⟨x.cells.toList[i'],?_,hcp.rel i' c _ hc (List.getElem?_eq_getElem hi')⟩;rw[Nat.zero_mul,Nat.zero_add,List.getElem?_append_left hi',List.getElem?_eq_getElem hi']
      | succ j =>
       simp at he;obtain⟨v',hv',hr'⟩:=f7 j e he i' c hc;refine⟨v',?_,hr'⟩;rw[List.getElem?_append_right (by rw[Nat.add_mul,Nat.one_mul,Array.length_toList];omega),Array.length_toList,Nat.add_mul,Nat.one_mul];rw[show j*sz+sz+i' - x.cells.size=j*sz+i' by omega];exact hv'
    ·cases h
def kA(P:Program)(s:AS)(T:TypeId)(len:Nat)(parts:List (Nat×Operand)):Option AV :=
 match eI P T,ib s parts with
 | some (e,sz+1),some ps=>match qn (s.u.contains Sb) (sz+1) 0 ps with
  | some l=>if ps.length=len∧0<len∧len*(sz+1)≤16777216∧(eg P e).isSome=true then some (.sl l) else none
  | none=>none
 | _,_=>none
theorem Lf{cx:Cx}{s:AS}{a:Act}{w:World}{ι:Env}(hsim:aN cx s a w ι){T:TypeId}{len:Nat}{parts:Array (Nat×Operand)}{v:AV}(h:kA cx.P s T len parts.toList=some v):
  ∃x w',(Instr.buildSlice T len (parts.map fun (i,x)=>(i,a.eval x))).run cx.P w=.ok x w'∧aN cx s a w' ι∧Rel (NN cx.M ι) w' ι v x:=by
 unfold kA at h;split at h
 ·rename_i e sz ps hts hps;split at h
  ·rename_i l hl;split at h
   ·rename_i hcond;obtain⟨c1,c2,c3,c4⟩:=hcond;injection h with h;subst h
    obtain⟨q1,q2⟩:=w5 hsim hps;unfold eI at hts;split at hts
    ·rename_i e' hu;cases hin:cx.P.info? e' with
     | none=>simp[bU,hin]at hts
     | some ie =>
      simp only[bU,hin,Option.map_some,Option.some.injEq,Prod.mk.injEq]at hts;obtain⟨rfl,hsz⟩:=hts;unfold eg at c4;cases hzz:ie.zero with
      | none=>simp[hin,hzz]at c4
      | some z =>
       have hl0:(parts.map fun (y:Nat×Operand)=>(y.1,a.eval y.2)).toList=parts.toList.map fun y=>(y.1,a.eval y.2):=Array.toList_map;obtain⟨zs',ys,f1,f2,f3,f4,f5,f6,f7⟩:=zK (zs:=(Array.range (len*ie.size)).map (z.cells[· % z.cells.size]!)) q1 q2 hl (by simp[c1,hsz]);rw[←hl0]at f1;have hy:zs'.toList=ys:=by
        rw[f2,c1];simp[hsz]
       have hsz':ie.size=sz+1:=hsz;rw[←hsz']at f1;have hpos:0<len*ie.size:=Nat.mul_pos c2 (by omega);have hrun:=run_buildSlice (P:=cx.P) w T e' len (parts.map fun (y:Nat×Operand)=>(y.1,a.eval y.2)) zs' ie z hu hin hzz (by rw[hsz'];omega) (by omega) f1;refine⟨_,_,hrun,?_,?_⟩
       ·exact hsim.world (hsim.hs.fresh _) rfl (by simp) (fun b _ hb=>hb) (fun b hb _=>Below.heap_alloc _ _ _ hb) (fun _ _ h=>h)
       ·have:=FB (T:=e') hsim.hs f5 f6 f7;rw[f4,c1,← hy]at this;simpa using this
    ·cases hts
   ·cases h
  ·cases h
 ·cases h
end Go.Proofs.YtocgkfoifehcbaaGreat

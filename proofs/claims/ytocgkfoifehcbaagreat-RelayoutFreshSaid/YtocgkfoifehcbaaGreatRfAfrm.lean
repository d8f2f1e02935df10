/- An operation looks at its operands alone: what else is known of the slots makes no difference. No program in sight. -/
import Derived.Test.YtocgkfoifehcbaaGreatRfAop4
namespace Go.Proofs.YtocgkfoifehcbaaGreat
set_option linter.all false
open Go.RowKit
def AS.tt(s:AS)(t:List (Nat×AV)):AS:={ s with t:=t }
theorem RA(s:AS)(t:List (Nat×AV))(p:AV):(s.tt t).mem p=s.mem p:=by cases p<;>rfl
theorem TL(P:Program)(s:AS)(t:List (Nat×AV))(T:TypeId)(p:AV):jr P (s.tt t) T p=jr P s T p:=by unfold jr;rw[RA]
theorem K5(P:Program)(s:AS)(t:List (Nat×AV))(T:TypeId)(x j:AV):nV P (s.tt t) T x j=nV P s T x j:=rfl
theorem UX(s:AS)(t:List (Nat×AV))(sz:Nat)(x:AV):j6 (s.tt t) sz x=j6 s sz x:=rfl
theorem mc{s:AS}{t:List (Nat×AV)}:∀{xs:List Operand},(∀x∈xs,(s.tt t).ev x=s.ev x)→cG (s.tt t) xs=cG s xs
 | [],_=>rfl
 | x::r,h=>by
  unfold cG;rw[h x List.mem_cons_self,mc (fun y hy=>h y (List.mem_cons_of_mem _ hy))]
theorem zj{s:AS}{t:List (Nat×AV)}:∀{ps:List (Nat×Operand)},(∀p∈ps,(s.tt t).ev p.2=s.ev p.2)→ib (s.tt t) ps=ib s ps
 | [],_=>rfl
 | (i,x)::r,h=>by
  unfold ib;have h1:(s.tt t).ev x=s.ev x:=h (i,x) List.mem_cons_self;rw[h1,zj (fun y hy=>h y (List.mem_cons_of_mem _ hy))]
theorem U4{P:Program}{s s':AS}{t:List (Nat×AV)}{T:TypeId}{p v:AV}(h:lY P s T p v=some s'):s'.t=s.t∧lY P (s.tt t) T p v=some (s'.tt t):=by
 unfold lY at h⊢;split at h
 ·rename_i id off;split at h
  ·rename_i cs nv h1 h2;split at h
   ·rename_i hc;injection h with h;subst h
    refine⟨rfl,?_⟩;have h1':look id (s.tt t).o=some cs:=h1;simp only[h1',h2];rw[if_pos hc];rfl
   ·cases h
  ·cases h
 ·rename_i id sz j off;split at h
  ·rename_i ar nv h1 h2;split at h
   ·rename_i e he;split at h
    ·rename_i hc;injection h with h;subst h
     refine⟨rfl,?_⟩;have h1':look id (s.tt t).r=some ar:=h1;simp only[h1',h2,he];rw[if_pos hc];rfl
    ·cases h
   ·cases h
  ·cases h
 ·cases h
theorem CK{s s':AS}{t:List (Nat×AV)}{d:Nat}{cs:List AV}(h:kN s d cs=some s'):s'.t=aZ d (.ptr d 0) s.t∧kN (s.tt t) d cs=some (s'.tt (aZ d (.ptr d 0) t)):=by
 unfold kN at h⊢;split at h
 ·cases h
 ·rename_i hc;injection h with h;subst h
  have hc':¬ (has (s.tt t).u d||Nat.ble 450000 d)=true:=hc;rw[if_neg hc'];exact⟨rfl,rfl⟩
theorem Us{s:AS}{t:List (Nat×AV)}{n:Nat}{lo hi:Option Operand}(h1:∀x,lo=some x→(s.tt t).ev x=s.ev x)(h2:∀x,hi=some x→(s.tt t).ev x=s.ev x):gO (s.tt t) n lo hi=gO s n lo hi:=by
 unfold gO;cases lo with
 | none=>cases hi with
  | none=>rfl
  | some y=>simp only[h2 y rfl]
 | some x=>cases hi with
  | none=>simp only[h1 x rfl]
  | some y=>simp only[h1 x rfl,h2 y rfl]
theorem JO(s:AS)(t:List (Nat×AV)):(s.tt t).r=s.r:=rfl
theorem Qo{s:AS}{t:List (Nat×AV)}{v:AV}{lo hi:Option Operand}(h1:∀x,lo=some x→(s.tt t).ev x=s.ev x)(h2:∀x,hi=some x→(s.tt t).ev x=s.ev x):gw (s.tt t) v lo hi=gw s v lo hi:=by
 unfold gw;split<;>simp only[Us h1 h2,JO]
theorem Fz{P:Program}{s:AS}{t:List (Nat×AV)}{o:Oper}(he:∀x∈o.op.operands.toList,(s.tt t).ev x=s.ev x):hI P (s.tt t) o=hI P s o:=by
 unfold hI;cases hop:o.op with
 | nilCheck x=>simp only[he x (by simp[hop,Op.operands])]
 | field T x f=>simp only[he x (by simp[hop,Op.operands])]
 | index T x i=>simp only[he x (by simp[hop,Op.operands]),he i (by simp[hop,Op.operands])]
 | convert S D x=>simp only[he x (by simp[hop,Op.operands])]
 | makeFunc fn bs cs =>
  cases fn with
  | func g =>
   simp only[];unfold zr;split
   ·rename_i x hb hc;simp only[he x (by simp[hop,Op.operands,← Array.mem_toList_iff,hb])]
   ·rfl
  | _=>rfl
 | binOp op T x y Ty=>simp only[he x (by simp[hop,Op.operands]),he y (by simp[hop,Op.operands])]
 | slice T x lo hi mx =>
  cases mx with
  | some m=>rfl
  | none =>
   have h1:∀y,lo=some y→(s.tt t).ev y=s.ev y:=fun y e=>he y (by subst e;simp[hop,Op.operands]);have h2:∀y,hi=some y→(s.tt t).ev y=s.ev y:=fun y e=>he y (by subst e;simp[hop,Op.operands]);simp only[he x (by simp[hop,Op.operands]),Qo h1 h2,JO]
 | _=>rfl
theorem Ki(s:AS)(t:List (Nat×AV))(v:AV):jW (s.tt t) v=jW s v:=by cases v<;>rfl
theorem Vf(s:AS)(t:List (Nat×AV))(v:AV):n0 (s.tt t) v=n0 s v:=by
 unfold n0;split
 ·rfl
 ·rw[Ki]
theorem UA{P:Program}{s s':AS}{t:List (Nat×AV)}{T:TypeId}{u v r:AV}(h:oi P s T u v=some (s',r)):s'.t=s.t∧oi P (s.tt t) T u v=some (s'.tt t,r):=by
 unfold oi at h⊢;rw[Ki,Vf];split at h
 ·rename_i h1 h2 h3;split at h
  ·rename_i hc;injection h with h;injection h with e1 e2;subst e1;subst e2
   refine⟨rfl,?_⟩
   (try simp only[h1,h2,h3])
   rw[if_pos hc];rfl
  ·cases h
 ·cases h
theorem UD{P:Program}{n:Nat}{s s':AS}{o:Oper}(t:List (Nat×AV))(h:bE P n s o=some s')(hap:∀c,o.op=.call c→c.callee ≠ .builtin .append)(he:∀x∈o.op.operands.toList,(s.tt t).ev x=s.ev x):
  ∃v,s'.t=(s.put o.dst v).t∧bE P n (s.tt t) o=some (s'.tt ((s.tt t).put o.dst v).t):=by
 unfold bE at h⊢;split at h
 case isFalse=>cases h
 rename_i hd;rw[if_pos hd];have put1:∀v,s.put o.dst v=(s.put o.dst v).tt (s.put o.dst v).t:=fun v=>rfl;have put2':∀{q:AS} {v},q.t=s.t→(q.tt t).put o.dst v=(q.put o.dst v).tt ((s.tt t).put o.dst v).t:=fun {q v} hq=>by cases h:o.dst<;>rfl
 have put2:∀v,(s.tt t).put o.dst v=(s.put o.dst v).tt ((s.tt t).put o.dst v).t:=fun v=>by cases h:o.dst<;>rfl
 cases hop:o.op with
 | move x =>
  simp only[hop]at h⊢;rw[he x (by simp[hop,Op.operands])];split at h
  ·rename_i v hv;injection h with h;subst h;exact⟨v,rfl,by (try simp only[hv]);rw[←put2]⟩
  ·cases h
 | assign x =>
  simp only[hop]at h⊢;rw[he x (by simp[hop,Op.operands])];split at h
  ·rename_i v hv;injection h with h;subst h;exact⟨v,rfl,by (try simp only[hv]);rw[←put2]⟩
  ·cases h
 | pick c x y =>
  simp only[hop]at h⊢;rw[he c (by simp[hop,Op.operands]),he x (by simp[hop,Op.operands]),he y (by simp[hop,Op.operands])];split at h
  ·rename_i b hb;split at h
   ·rename_i v hv;injection h with h;subst h;exact⟨v,rfl,by (try simp only[hb,hv]);rw[←put2]⟩
   ·cases h
  ·cases h
 | alloc T =>
  simp only[hop]at h⊢;split at h
  ·rename_i d cs hdd hz;obtain⟨h1,h2⟩:=CK (t:=t) h;refine⟨.ptr d 0,by rw[hdd];exact h1,?_⟩;simp only[hdd,hz];rw[h2];rfl
  ·cases h
 | box T x =>
  simp only[hop]at h⊢;rw[he x (by simp[hop,Op.operands])];split at h
  ·rename_i d v hdd hv;split at h
   ·rename_i cs hcs;obtain⟨h1,h2⟩:=CK (t:=t) h;refine⟨.ptr d 0,by rw[hdd];exact h1,?_⟩;simp only[hdd,hv,hcs];rw[h2];rfl
   ·cases h
  ·cases h
 | load T x =>
  simp only[hop]at h⊢;rw[he x (by simp[hop,Op.operands])];split at h
  ·rename_i p hp;split at h
   ·rename_i v hv;injection h with h;subst h;exact⟨v,rfl,by (try simp only[hp,TL,hv]);rw[←put2]⟩
   ·cases h
  ·cases h
 | store T x y =>
  simp only[hop]at h⊢;rw[he x (by simp[hop,Op.operands]),he y (by simp[hop,Op.operands])];split at h
  ·rename_i p v hdd hp hv;obtain⟨h1,h2⟩:=U4 (t:=t) h;refine⟨.nilp,by rw[hdd];exact h1,?_⟩;simp only[hdd,hp,hv];rw[h2];rfl
  ·cases h
 | fieldAddr T x f =>
  simp only[hop]at h⊢;rw[he x (by simp[hop,Op.operands])];split at h
  ·rename_i p hp;split at h
   ·rename_i v hv;injection h with h;subst h;exact⟨v,rfl,by (try simp only[hp,hv]);rw[←put2]⟩
   ·cases h
  ·cases h
 | indexAddr T x y =>
  simp only[hop]at h⊢;rw[he x (by simp[hop,Op.operands]),he y (by simp[hop,Op.operands])];split at h
  ·rename_i p j hp hj;split at h
   ·rename_i v hv;injection h with h;subst h;exact⟨v,rfl,by (try simp only[hp,hj,K5,hv]);rw[←put2]⟩
   ·cases h
  ·cases h
 | build T parts =>
  simp only[hop]at h⊢;have e:oF P (s.tt t) T parts.toList=oF P s T parts.toList:=by
   unfold oF;rw[zj (fun p hp=>he p.2 (by simp[hop,Op.operands];exact⟨p.1,Array.mem_toList_iff.1 hp⟩))]
  rw[e];split at h
  ·rename_i v hv;injection h with h;subst h;exact⟨v,rfl,by (try simp only[hv]);rw[←put2]⟩
  ·cases h
 | buildSlice T len parts =>
  simp only[hop]at h⊢;have e:kA P (s.tt t) T len parts.toList=kA P s T len parts.toList:=by
   unfold kA;rw[zj (fun p hp=>he p.2 (by simp[hop,Op.operands];exact⟨p.1,Array.mem_toList_iff.1 hp⟩))];rfl
  rw[e];split at h
  ·rename_i v hv;injection h with h;subst h;exact⟨v,rfl,by (try simp only[hv]);rw[←put2]⟩
  ·cases h
 | makeSlice T x y =>
  simp only[hop]at h⊢;have e:oc P (s.tt t) T x y=oc P s T x y:=by
   unfold oc;rw[he x (by simp[hop,Op.operands]),he y (by simp[hop,Op.operands])]
  rw[e];split at h
  ·rename_i v hv;injection h with h;subst h;exact⟨v,rfl,by (try simp only[hv]);rw[←put2]⟩
  ·cases h
 | extract x i =>
  simp only[hop]at h⊢;rw[he x (by simp[hop,Op.operands])];split at h
  ·rename_i p hp;split at h
   ·rename_i v hv;injection h with h;subst h;exact⟨v,rfl,by (try simp only[hp,hv]);rw[←put2]⟩
   ·cases h
  ·cases h
 | binOp op T x y Ty =>
  simp only[hop]at h⊢;rw[he x (by simp[hop,Op.operands]),he y (by simp[hop,Op.operands])];have hx:=Fz (P:=P) (t:=t) he;split at h
  ·rename_i u v hu hv;split at h
   ·rename_i r hr;injection h with h;subst h;exact⟨r,rfl,by (try simp only[hu,hv,hr]);rw[←put2]⟩
   ·rename_i hr;split at h
    ·rename_i r hr';injection h with h;subst h;exact⟨r,rfl,by (try simp only[hu,hv,hr,hx,hr']);rw[←put2]⟩
    ·cases h
  ·cases h
 | unOp op T x =>
  simp only[hop]at h⊢;rw[he x (by simp[hop,Op.operands])];split at h
  ·rename_i u hu;split at h
   ·rename_i r hr;injection h with h;subst h;exact⟨r,rfl,by (try simp only[hu,hr]);rw[←put2]⟩
   ·cases h
  ·cases h
 | call c =>
  simp only[hop]at h⊢;split at h
  ·rename_i hb;exact(hap c hop hb).elim
  ·rename_i hb;split at h
   ·rename_i x y T T' hxs hTs;split at h
    ·rename_i u v hu hv;split at h
     ·rename_i q hq;injection h with h;subst h
      have hx:=he x (by simp[hop,Op.operands,Call.operands,hb];exact Array.mem_toList_iff.1 (by rw[hxs];simp));have hy:=he y (by simp[hop,Op.operands,Call.operands,hb];exact Array.mem_toList_iff.1 (by rw[hxs];simp));obtain⟨q1,q2⟩:=q;obtain⟨h1,h2⟩:=UA (t:=t) hq;refine⟨q2,?_,?_⟩
      ·have:q1.t=s.t:=h1;cases o.dst<;>simp[AS.put,this]
      ·(try simp only[hx,hy,hu,hv,h2]);rw[←put2' h1]
     ·cases h
    ·cases h
   ·cases h
  ·rename_i b hnb _ hb;split at h
   ·rename_i r hr;injection h with h;subst h
    have e:kU P (s.tt t) b c.args.toList c.argTypes.toList=kU P s b c.args.toList c.argTypes.toList:=by
     have hx:cG (s.tt t) c.args.toList=cG s c.args.toList:=mc (fun x hx=>he x (by simp[hop,Op.operands,Call.operands,hb];exact Array.mem_toList_iff.1 hx));unfold kU;split
     ·split
      ·rename_i x T hxs hTs;rw[hxs]at hx;have:=he x (by simp[hop,Op.operands,Call.operands,hb];exact Array.mem_toList_iff.1 (by rw[hxs];simp));rw[this];split<;>rfl
      ·rfl
     ·rw[hx]
     ·rw[hx]
     ·rfl
    refine⟨r,rfl,?_⟩;rw[e]
    (try simp only[hr]);rw[←put2]
   ·cases h
  ·cases h
 | _ =>
  have hx:=Fz (P:=P) (t:=t) he;simp only[hop]at h⊢;split at h
  ·rename_i r hr;injection h with h;subst h;exact⟨r,rfl,by simp only[hx,hr];rw[←put2]⟩
  ·cases h
def bS(ok:Nat→Bool):List (Nat×AV)→List (Nat×AV)
 | []=>[]
 | (k,v)::r=>if ok k=true then (k,v)::bS ok r else bS ok r
theorem dB{ok:Nat→Bool}:∀(l:List (Nat×AV)) (k:Nat),look k (bS ok l)=if ok k=true then look k l else none
 | [],k=>by simp[bS,look]
 | (j,x)::r,k=>by
  unfold bS;by_cases hj:ok j=true
  ·rw[if_pos hj];simp only[look,dB r k];by_cases h:k=j
   ·subst h;simp[hj]
   ·simp[h]
  ·rw[if_neg hj,dB r k];simp only[look];by_cases h:k=j
   ·subst h;simp[hj]
   ·simp[h]
theorem pB{ok:Nat→Bool}{id:Nat}:∀(l:List (Nat×AV)),cQ id (bS ok l)=bS ok (cQ id l)
 | []=>rfl
 | (j,x)::r=>by
  have e1:bS ok ((j,x)::r)=if ok j=true then (j,x)::bS ok r else bS ok r:=rfl;have e2:cQ id ((j,x)::r)=(j,x.co id)::cQ id r:=rfl;have e3:bS ok ((j,x.co id)::cQ id r)=if ok j=true then (j,x.co id)::bS ok (cQ id r) else bS ok (cQ id r):=rfl;rw[e1,e2,e3];by_cases hj:ok j=true
  ·rw[if_pos hj,if_pos hj,← pB r];rfl
  ·rw[if_neg hj,if_neg hj,pB r]
theorem Lt{P:Program}{n:Nat}{s s':AS}{o:Oper}{ok:Nat→Bool}(h:bE P n s o=some s')(he:∀x t,x∈o.op.operands.toList→x=.tmp t→ok t=true):
  ∃s2,bE P n (s.tt (bS ok s.t)) o=some s2∧s2.o=s'.o∧s2.r=s'.r∧s2.u=s'.u∧∀k v,ok k=true∨some k=o.dst→look k s'.t=some v→look k s2.t=some v:=by
 have hev:∀x∈o.op.operands.toList,(s.tt (bS ok s.t)).ev x=s.ev x:=fun x hx=>by
  cases x with
  | tmp t=>show look t (bS ok s.t)=look t s.t;rw[dB,if_pos (he _ t hx rfl)]
  | const v=>rfl
  | func f=>rfl
  | global g=>rfl
 by_cases hap:∀c,o.op=.call c→c.callee ≠ .builtin .append
 ·obtain⟨v,h1,h2⟩:=UD (bS ok s.t) h hap hev;refine⟨_,h2,rfl,rfl,rfl,fun k u hk hu=>?_⟩;show look k ((s.tt (bS ok s.t)).put o.dst v).t=some u;rw[h1]at hu;cases hd:o.dst with
  | none =>
   rw[hd]at hu hk;rcases hk with hk|hk
   ·show look k (bS ok s.t)=some u;rw[dB,if_pos hk];exact hu
   ·cases hk
  | some d =>
   rw[hd]at hu hk;simp only[AS.put,ca]at hu⊢;by_cases e:k=d
   ·rw[if_pos e]at hu⊢;exact hu
   ·rw[if_neg e]at hu⊢;rcases hk with hk|hk
    ·show look k (bS ok s.t)=some u;rw[dB,if_pos hk];exact hu
    ·injection hk with hk;exact(e hk).elim
 ·have hap':∃c,o.op=.call c∧c.callee=.builtin .append:=by
   refine Classical.byContradiction fun hn=>hap fun c hc hcc=>hn ⟨c,hc,hcc⟩
  obtain⟨c,hc,hcc⟩:=hap';unfold bE at h⊢;split at h
  case isFalse=>cases h
  rename_i hd;rw[if_pos hd];simp only[hc,hcc]at h⊢;split at h
  ·rename_i x y T T' d hxs hTs hdd;split at h
   ·rename_i hTT;have hx:=hev x (by simp[hc,Op.operands,Call.operands,hcc];exact Array.mem_toList_iff.1 (by rw[hxs];simp));have hy:=hev y (by simp[hc,Op.operands,Call.operands,hcc];exact Array.mem_toList_iff.1 (by rw[hxs];simp));split at h
    ·rename_i v u hv hu;simp only[hxs,hTs,hdd,if_pos hTT,hx,hy,hv,hu];unfold qD at h⊢;split at h
     ·rename_i e sz bytes hta;simp only[UX]at h⊢;split at h
      ·rename_i new hnew;split at h
       ·split at h
        ·cases h
        ·rename_i hcond;injection h with h;subst h
         have hcond':¬ (has (s.tt (bS ok s.t)).u d=true∨¬ (new.length≤maxLen∧new.length*bytes≤140737488355328)):=hcond;refine⟨{ t:=aZ d (.ref d) (cQ d (bS ok s.t)),o:=dJ d s.o,r:=aZ d ⟨e,sz,new⟩ s.r,u:=d::s.u },by (try simp only[hnew]);rw[if_neg hcond'];rfl,rfl,rfl,rfl,fun k w hk hw=>?_⟩;simp only[ca]at hw⊢;by_cases e:k=d
         ·rw[if_pos e]at hw⊢;exact hw
         ·rw[if_neg e]at hw⊢;rcases hk with hk|hk
          ·show look k (cQ d (bS ok s.t))=some w;rw[pB,dB,if_pos hk];exact hw
          ·injection hk with hk;exact(e hk).elim
       ·rename_i id;split at h
        ·rename_i ar har;split at h
         ·rename_i hcond;injection h with h;subst h
          have har':look id (s.tt (bS ok s.t)).r=some ar:=har;refine⟨{ t:=aZ d (.ref id) (cQ id (bS ok s.t)),o:=dJ id s.o,r:=aZ id { ar with l:=ar.l++new } s.r,u:=s.u },by (try simp only[hnew]);simp only[har'];rw[if_pos (show(s.tt (bS ok s.t)).u.contains (cK id)=false∧ar.e=e∧ar.sz=sz∧ar.l.length+new.length≤maxLen∧(ar.l.length+new.length)*bytes≤140737488355328 from hcond)];rfl,rfl,rfl,rfl,fun k w hk hw=>?_⟩;simp only[ca]at hw⊢;by_cases e:k=d
          ·rw[if_pos e]at hw⊢;exact hw
          ·rw[if_neg e]at hw⊢;rcases hk with hk|hk
           ·show look k (cQ id (bS ok s.t))=some w;rw[pB,dB,if_pos hk];exact hw
           ·injection hk with hk;exact(e hk).elim
         ·cases h
        ·cases h
       ·cases h
      ·cases h
     ·cases h
    ·cases h
   ·cases h
  ·cases h
end Go.Proofs.YtocgkfoifehcbaaGreat

/- An operation looks at its operands alone: what else is known of the slots makes no difference. No program in sight. -/
import Derived.Test.YtocgkfoifehcbaaGreatRdAop4
namespace Go.Proofs.YtocgkfoifehcbaaGreat
set_option linter.all false
open Go.RowKit
def tl:=@List.mem_cons_self
def In:=@Array.mem_toList_iff
def aiI:=@Classical.byContradiction
def AS.tt(s:AS)(t:il):AS:={ s with t:=t }
theorem Y7(s:AS) t p:(s.tt t).mem p=s.mem p:=by rfl
theorem acW P s t T p:mz P (s.tt t) T p=mz P s T p:=by grind[mz,Y7]
theorem ahu P s t T x j:tw P (s.tt t) T x j=tw P s T x j:=rfl
theorem adb s t sz x:oI (s.tt t) sz x=oI s sz x:=rfl
theorem pF{s}{t}:∀{xs},(∀x∈xs,(s.tt t).ev x=s.ev x)→dj (s.tt t) xs=dj s xs
 | [],_=>rfl
 | x::r,h=>by
  unfold dj;rw[h x tl,pF (fun y a=>h y (by grind))]
theorem GU{s}{t}:∀{ps},(∀p∈ps,(s.tt t).ev p.2=s.ev p.2)→lD (s.tt t) ps=lD s ps
 | [],_=>rfl
 | (i,x)::r,h=>by
  unfold lD;have a:(s.tt t).ev x=s.ev x:=h (i,x) tl;rw[a,GU (fun y b=>h y (by grind))]
theorem aiO{P:Program}{s s':AS}{t:il}{T:TypeId}{p v:AV}(h:rQ P s T p v=some s'):s'.t=s.t∧rQ P (s.tt t) T p v=some (s'.tt t):=by
 unfold rQ at h⊢;split at h
 ·rename_i id off;split at h
  ·rename_i cs g b c;split at h
   ·rename_i d;injection h with h;subst h
    refine⟨rfl,?_⟩;have a:look id (s.tt t).o=some cs:=b;simp only[a,c];rw[lp d];rfl
   ·cases h
  ·cases h
 ·rename_i id sz j off;split at h
  ·rename_i ar g b c;split at h
   ·rename_i e f;split at h
    ·rename_i d;injection h with h;subst h
     refine⟨rfl,?_⟩;have a:look id (s.tt t).r=some ar:=b;simp only[a,c,f];rw[lp d];rfl
    ·cases h
   ·cases h
  ·cases h
 grind
theorem VJ{s s':AS}{t:il}{d:Nat}{cs:c6}(h:qo s d cs=some s'):s'.t=bd d (.ptr d 0) s.t∧qo (s.tt t) d cs=some (s'.tt (bd d (.ptr d 0) t)):=by
 unfold qo at h⊢;split at h
 ·cases h
 ·rename_i b;injection h with h;subst h
  have a:¬ (has (s.tt t).u d||Nat.ble 450000 d)=true:=b;rw[kc a];exact⟨rfl,rfl⟩
theorem akr{s}{t}{n}{lo hi}(a:∀x,lo=some x→(s.tt t).ev x=s.ev x)(b:∀x,hi=some x→(s.tt t).ev x=s.ev x):jJ (s.tt t) n lo hi=jJ s n lo hi:=by
 unfold jJ
 grind
theorem UY(s:AS) t:(s.tt t).r=s.r:=rfl
theorem abl{s:AS}{t:il}{v:AV}{lo hi:Option Operand}(a:∀x,lo=some x→(s.tt t).ev x=s.ev x)(b:∀x,hi=some x→(s.tt t).ev x=s.ev x):ke (s.tt t) v lo hi=ke s v lo hi:=by
 unfold ke;split<;>simp[akr a b,UY]
theorem Mk{P:Program}{s:AS}{t:il}{o:Oper}(b:∀x∈o.op.operands.toList,(s.tt t).ev x=s.ev x):lG P (s.tt t) o=lG P s o:=by
 unfold lG;cases a:o.op with
 | nilCheck x=>simp only[b x (by simp[a,Op.operands])]
 | field T x f=>simp only[b x (by simp[a,Op.operands])]
 | index T x i=>simp only[b x (by simp[a,Op.operands]),b i (by simp[a,Op.operands])]
 | convert S D x=>simp only[b x (by simp[a,Op.operands])]
 | makeFunc c l cs =>
  cases c with
  | func g =>
   simp only[];unfold J3;split
   ·rename_i x j n;simp only[b x (by simp[a,Op.operands,← Array.mem_toList_iff,j])]
   ·rfl
  | _=>rfl
 | binOp op T x y k=>simp only[b x (by simp[a,Op.operands]),b y (by simp[a,Op.operands])]
 | slice T x lo hi mx =>
  cases mx with
  | some m=>rfl
  | none =>
   have d:∀y,lo=some y→(s.tt t).ev y=s.ev y:=fun y e=>b y (by subst e;simp[a,Op.operands]);have h:∀y,hi=some y→(s.tt t).ev y=s.ev y:=fun y e=>b y (by subst e;simp[a,Op.operands]);simp only[b x (by simp[a,Op.operands]),abl d h,UY]
 | _=>rfl
theorem Vn s t v:nQ (s.tt t) v=nQ s v:=by rfl
theorem aas s t v:sG (s.tt t) v=sG s v:=by
 simp_all[sG,Vn]
theorem YK{P:Program}{s s':AS}{t:il}{T:TypeId}{u v r:AV}(h:sk P s T u v=some (s',r)):s'.t=s.t∧sk P (s.tt t) T u v=some (s'.tt t,r):=by
 unfold sk at h⊢;rw[Vn,aas];split at h
 ·rename_i c d e;split at h
  ·rename_i f;injection h with h;injection h with a b;subst a;subst b
   refine⟨rfl,?_⟩
   (try simp only[c,d,e])
   rw[lp f];rfl
  ·cases h
 ·cases h
theorem adf{P:Program}{n:Nat}{s s':AS}{o:Oper}(t:il)(h:cc P n s o=some s')(J:∀c,o.op=.call c→c.callee ≠ .builtin .append)(l:∀x∈o.op.operands.toList,(s.tt t).ev x=s.ev x):
  ∃v,s'.t=(s.put o.dst v).t∧cc P n (s.tt t) o=some (s'.tt ((s.tt t).put o.dst v).t):=by
 unfold cc at h⊢;split at h
 case isFalse=>cases h
 rename_i O;rw[lp O];have N:∀v,s.put o.dst v=(s.put o.dst v).tt (s.put o.dst v).t:=fun v=>rfl;have F:∀{q:AS} {v},q.t=s.t→(q.tt t).put o.dst v=(q.put o.dst v).tt ((s.tt t).put o.dst v).t:=fun {q v} M=>by cases h:o.dst<;>rfl
 have g:∀v,(s.tt t).put o.dst v=(s.put o.dst v).tt ((s.tt t).put o.dst v).t:=fun v=>by cases h:o.dst<;>rfl
 cases a:o.op with
 | move x =>
  simp only[a]at h⊢;rw[l x (by simp[a,Op.operands])];split at h
  ·rename_i v k;injection h with h;subst h;exact⟨v,rfl,by (try simp only[k]);rw[←g]⟩
  ·cases h
 | assign x =>
  simp only[a]at h⊢;rw[l x (by simp[a,Op.operands])];split at h
  ·rename_i v k;injection h with h;subst h;exact⟨v,rfl,by (try simp only[k]);rw[←g]⟩
  ·cases h
 | pick c x y =>
  simp only[a]at h⊢;rw[l c (by simp[a,Op.operands]),l x (by simp[a,Op.operands]),l y (by simp[a,Op.operands])];split at h
  ·rename_i b B;split at h
   ·rename_i v k;injection h with h;subst h;exact⟨v,rfl,by (try simp only[B,k]);rw[←g]⟩
   ·cases h
  ·cases h
 | alloc T =>
  simp only[a]at h⊢;split at h
  ·rename_i d cs m U;obtain⟨D,E⟩:=VJ (t:=t) h;refine⟨.ptr d 0,by rw[m];exact D,?_⟩;simp only[m,U];rw[E];rfl
  ·cases h
 | box T x =>
  simp only[a]at h⊢;rw[l x (by simp[a,Op.operands])];split at h
  ·rename_i d v m k;split at h
   ·rename_i cs K;obtain⟨D,E⟩:=VJ (t:=t) h;refine⟨.ptr d 0,by rw[m];exact D,?_⟩;simp only[m,k,K];rw[E];rfl
   ·cases h
  ·cases h
 | load T x =>
  simp only[a]at h⊢;rw[l x (by simp[a,Op.operands])];split at h
  ·rename_i p w;split at h
   ·rename_i v k;injection h with h;subst h;exact⟨v,rfl,by (try simp only[w,acW,k]);rw[←g]⟩
   ·cases h
  ·cases h
 | store T x y =>
  simp only[a]at h⊢;rw[l x (by simp[a,Op.operands]),l y (by simp[a,Op.operands])];split at h
  ·rename_i p v m w k;obtain⟨D,E⟩:=aiO (t:=t) h;refine⟨.nilp,by rw[m];exact D,?_⟩;simp only[m,w,k];rw[E];rfl
  ·cases h
 | fieldAddr T x f =>
  simp only[a]at h⊢;rw[l x (by simp[a,Op.operands])];split at h
  ·rename_i p w;split at h
   ·rename_i v k;injection h with h;subst h;exact⟨v,rfl,by (try simp only[w,k]);rw[←g]⟩
   ·cases h
  ·cases h
 | indexAddr T x y =>
  simp only[a]at h⊢;rw[l x (by simp[a,Op.operands]),l y (by simp[a,Op.operands])];split at h
  ·rename_i p j w Q;split at h
   ·rename_i v k;injection h with h;subst h;exact⟨v,rfl,by (try simp only[w,Q,ahu,k]);rw[←g]⟩
   ·cases h
  ·cases h
 | build T parts =>
  simp only[a]at h⊢;have e:sA P (s.tt t) T parts.toList=sA P s T parts.toList:=by
   unfold sA;rw[GU (fun p w=>l p.2 (by simp[a,Op.operands];exact⟨p.1,In.1 w⟩))]
  rw[e];split at h
  ·rename_i v k;injection h with h;subst h;exact⟨v,rfl,by (try simp only[k]);rw[←g]⟩
  ·cases h
 | buildSlice T H parts =>
  simp only[a]at h⊢;have e:oE P (s.tt t) T H parts.toList=oE P s T H parts.toList:=by
   unfold oE;rw[GU (fun p w=>l p.2 (by simp[a,Op.operands];exact⟨p.1,In.1 w⟩))];rfl
  rw[e];split at h
  ·rename_i v k;injection h with h;subst h;exact⟨v,rfl,by (try simp only[k]);rw[←g]⟩
  ·cases h
 | makeSlice T x y =>
  simp only[a]at h⊢;have e:tA P (s.tt t) T x y=tA P s T x y:=by
   unfold tA;rw[l x (by simp[a,Op.operands]),l y (by simp[a,Op.operands])]
  rw[e];split at h
  ·rename_i v k;injection h with h;subst h;exact⟨v,rfl,by (try simp only[k]);rw[←g]⟩
  ·cases h
 | extract x i =>
  simp only[a]at h⊢;rw[l x (by simp[a,Op.operands])];split at h
  ·rename_i p w;split at h
   ·rename_i v k;injection h with h;subst h;exact⟨v,rfl,by (try simp only[w,k]);rw[←g]⟩
   ·cases h
  ·cases h
 | binOp op T x y X =>
  simp only[a]at h⊢;rw[l x (by simp[a,Op.operands]),l y (by simp[a,Op.operands])];have z:=Mk (P:=P) (t:=t) l;split at h
  ·rename_i u v G k;split at h
   ·rename_i r C;injection h with h;subst h;exact⟨r,rfl,by (try simp only[G,k,C]);rw[←g]⟩
   ·rename_i C;split at h
    ·rename_i r L;injection h with h;subst h;exact⟨r,rfl,by (try simp only[G,k,C,z,L]);rw[←g]⟩
    ·cases h
  ·cases h
 | unOp op T x =>
  simp only[a]at h⊢;rw[l x (by simp[a,Op.operands])];split at h
  ·rename_i u G;split at h
   ·rename_i r C;injection h with h;subst h;exact⟨r,rfl,by (try simp only[G,C]);rw[←g]⟩
   ·cases h
  ·cases h
 | call c =>
  simp only[a]at h⊢;split at h
  ·rename_i B;exact(J c a B).elim
  ·rename_i B;split at h
   ·rename_i x y T T' A I;split at h
    ·rename_i u v G k;split at h
     ·rename_i q M;injection h with h;subst h
      have z:=l x (by simp[a,Op.operands,Call.operands,B];exact In.1 (by rw[A];simp));have S:=l y (by simp[a,Op.operands,Call.operands,B];exact In.1 (by rw[A];simp));obtain⟨V,W⟩:=q;obtain⟨D,E⟩:=YK (t:=t) M;refine⟨W,?_,?_⟩
      ·have:V.t=s.t:=D;cases o.dst<;>simp[AS.put,this]
      ·(try simp only[z,S,G,k,E]);rw[←F D]
     ·cases h
    ·cases h
   ·cases h
  ·rename_i b R _ B;split at h
   ·rename_i r C;injection h with h;subst h
    have e:ot P (s.tt t) b c.args.toList c.argTypes.toList=ot P s b c.args.toList c.argTypes.toList:=by
     have z:dj (s.tt t) c.args.toList=dj s c.args.toList:=pF (fun x z=>l x (by simp[a,Op.operands,Call.operands,B];exact In.1 z));unfold ot;split
     ·split
      ·rename_i x T A I;rw[A]at z;have:=l x (by simp[a,Op.operands,Call.operands,B];exact In.1 (by rw[A];simp));rw[this];split<;>rfl
      ·rfl
     ·rw[z]
     ·rw[z]
     ·rfl
    refine⟨r,rfl,?_⟩;rw[e]
    (try simp only[C]);rw[←g]
   ·cases h
  ·cases h
 | _ =>
  have z:=Mk (P:=P) (t:=t) l;simp only[a]at h⊢;split at h
  ·rename_i r C;injection h with h;subst h;exact⟨r,rfl,by simp only[z,C];rw[←g]⟩
  ·cases h
def cy(ok:Nat→Bool):il→il
 | []=>[]
 | (k,v)::r=>if ok k=true then (k,v)::cy ok r else cy ok r
theorem eX{ok}:∀l k,look k (cy ok l)=if ok k=true then look k l else none
 | [],k=>by simp[cy,look]
 | (j,x)::r,k=>by
  unfold cy;by_cases a:ok j=true
  ·rw[lp a];simp only[look,eX r k]
   grind
  ·rw[kc a,eX r k];grind[look]
theorem uX{ok}{id}:∀l,dw id (cy ok l)=cy ok (dw id l)
 | []=>rfl
 | (j,x)::r=>by
  have b:cy ok ((j,x)::r)=if ok j=true then (j,x)::cy ok r else cy ok r:=rfl;have c:dw id ((j,x)::r)=(j,x.cO id)::dw id r:=rfl;have d:cy ok ((j,x.cO id)::dw id r)=if ok j=true then (j,x.cO id)::cy ok (dw id r) else cy ok (dw id r):=rfl;rw[b,c,d];by_cases a:ok j=true
  ·rw[lp a,lp a,← uX r];rfl
  ·rw[kc a,kc a,uX r]
theorem acC{P:Program}{n:Nat}{s s':AS}{o:Oper}{ok:Nat→Bool}(h:cc P n s o=some s')(O:∀x t,x∈o.op.operands.toList→x=.tmp t→ok t=true):
  ∃F,cc P n (s.tt (cy ok s.t)) o=some F∧F.o=s'.o∧F.r=s'.r∧F.u=s'.u∧∀k v,ok k=true∨some k=o.dst→look k s'.t=some v→look k F.t=some v:=by
 have z:∀x∈o.op.operands.toList,(s.tt (cy ok s.t)).ev x=s.ev x:=fun x L=>by
  cases x with
  | tmp t=>show look t (cy ok s.t)=look t s.t;rw[eX,lp (O _ t L rfl)]
  | const v=>rfl
  | func f=>rfl
  | global g=>rfl
 by_cases B:∀c,o.op=.call c→c.callee ≠ .builtin .append
 ·obtain⟨v,M,N⟩:=adf (cy ok s.t) h B z;refine⟨_,N,rfl,rfl,rfl,fun k u a j=>?_⟩;show look k ((s.tt (cy ok s.t)).put o.dst v).t=some u;rw[M]at j;cases G:o.dst with
  | none =>
   rw[G]at j a;rcases a with a|a
   ·show look k (cy ok s.t)=some u;rw[eX,lp a];exact j
   ·cases a
  | some d =>
   rw[G]at j a;simp only[AS.put,cn]at j⊢;by_cases e:k=d
   ·rw[lp e]at j⊢;exact j
   ·rw[kc e]at j⊢;rcases a with a|a
    ·show look k (cy ok s.t)=some u;rw[eX,lp a];exact j
    ·injection a with a;exact(e a).elim
 ·have C:∃c,o.op=.call c∧c.callee=.builtin .append:=by
   refine aiI fun Q=>B fun c E i=>Q ⟨c,E,i⟩
  obtain⟨c,E,i⟩:=C;unfold cc at h⊢;split at h
  case isFalse=>cases h
  rename_i G;rw[lp G];simp only[E,i]at h⊢;split at h
  ·rename_i x y T T' d A I K;split at h
   ·rename_i H;have L:=z x (by simp[E,Op.operands,Call.operands,i];exact In.1 (by rw[A];simp));have U:=z y (by simp[E,Op.operands,Call.operands,i];exact In.1 (by rw[A];simp));split at h
    ·rename_i v u S j;simp only[A,I,K,lp H,L,U,S,j];unfold zK at h⊢;split at h
     ·rename_i e sz bytes R;simp only[adb]at h⊢;split at h
      ·rename_i new q;split at h
       ·split at h
        ·cases h
        ·rename_i b;injection h with h;subst h
         have p:¬ (has (s.tt (cy ok s.t)).u d=true∨¬ (new.length≤maxLen∧new.length*bytes≤140737488355328)):=b;refine⟨{ t:=bd d (.ref d) (dw d (cy ok s.t)),o:=eV d s.o,r:=bd d ⟨e,sz,new⟩ s.r,u:=d::s.u },by (try simp only[q]);rw[kc p];rfl,rfl,rfl,rfl,fun k w a m=>?_⟩;simp only[cn]at m⊢;by_cases e:k=d
         ·rw[lp e]at m⊢;exact m
         ·rw[kc e]at m⊢;rcases a with a|a
          ·show look k (dw d (cy ok s.t))=some w;rw[uX,eX,lp a];exact m
          ·injection a with a;exact(e a).elim
       ·rename_i id;split at h
        ·rename_i ar J;split at h
         ·rename_i b;injection h with h;subst h
          have D:look id (s.tt (cy ok s.t)).r=some ar:=J;refine⟨{ t:=bd d (.ref id) (dw id (cy ok s.t)),o:=eV id s.o,r:=bd id { ar with l:=ar.l++new } s.r,u:=s.u },by (try simp only[q]);simp only[D];rw[lp (show(s.tt (cy ok s.t)).u.contains (da id)=false∧ar.e=e∧ar.sz=sz∧ar.l.length+new.length≤maxLen∧(ar.l.length+new.length)*bytes≤140737488355328 from b)];rfl,rfl,rfl,rfl,fun k w a m=>?_⟩;simp only[cn]at m⊢;by_cases e:k=d
          ·rw[lp e]at m⊢;exact m
          ·rw[kc e]at m⊢;rcases a with a|a
           ·show look k (dw id (cy ok s.t))=some w;rw[uX,eX,lp a];exact m
           ·injection a with a;exact(e a).elim
         ·cases h
        ·cases h
       ·cases h
      ·cases h
     ·cases h
    ·cases h
   ·cases h
  ·cases h
end Go.Proofs.YtocgkfoifehcbaaGreat

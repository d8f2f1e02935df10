/- An operation looks at its operands alone: what else is known of the slots makes no difference. No program in sight. -/
import Derived.Test.YtocgkfoifehcbaaGreatRkAop4
namespace Go.Proofs.YtocgkfoifehcbaaGreat
set_option linter.all false
open Go.RowKit
def ti:=@List.mem_cons_self
def Do:=@Array.mem_toList_iff
def afF:=@Classical.byContradiction
def AS.tt(s:AS)(t:h8):AS:={ s with t:=t }
theorem adu(s:AS) t p:(s.tt t).mem p=s.mem p:=by rfl
theorem ZE P s t T p:ny P (s.tt t) T p=ny P s T p:=by grind[ny,adu]
theorem acA P s t T x j:tR P (s.tt t) T x j=tR P s T x j:=rfl
theorem ahJ s t sz x:nr (s.tt t) sz x=nr s sz x:=rfl
theorem qu{s}{t}:∀{xs},(∀x∈xs,(s.tt t).ev x=s.ev x)→dk (s.tt t) xs=dk s xs
 | [],_=>rfl
 | x::r,h=>by
  unfold dk;rw[h x ti,qu (fun y a=>h y (by grind))]
theorem IP{s}{t}:∀{ps},(∀p∈ps,(s.tt t).ev p.2=s.ev p.2)→kY (s.tt t) ps=kY s ps
 | [],_=>rfl
 | (i,x)::r,h=>by
  unfold kY;have a:(s.tt t).ev x=s.ev x:=h (i,x) ti;rw[a,IP (fun y b=>h y (by grind))]
theorem abZ{P:Program}{s s':AS}{t:h8}{T:TypeId}{p v:AV}(h:rp P s T p v=some s'):s'.t=s.t∧rp P (s.tt t) T p v=some (s'.tt t):=by
 unfold rp at h⊢;split at h
 ·rename_i id off;split at h
  ·rename_i cs g b c;split at h
   ·rename_i d;injection h with h;subst h
    refine⟨rfl,?_⟩;have a:look id (s.tt t).o=some cs:=b;simp only[a,c];rw[lc d];rfl
   ·cases h
  ·cases h
 ·rename_i id sz j off;split at h
  ·rename_i ar g b c;split at h
   ·rename_i e f;split at h
    ·rename_i d;injection h with h;subst h
     refine⟨rfl,?_⟩;have a:look id (s.tt t).r=some ar:=b;simp only[a,c,f];rw[lc d];rfl
    ·cases h
   ·cases h
  ·cases h
 grind
theorem Pf{s s':AS}{t:h8}{d:Nat}{cs:c6}(h:rK s d cs=some s'):s'.t=bm d (.ptr d 0) s.t∧rK (s.tt t) d cs=some (s'.tt (bm d (.ptr d 0) t)):=by
 unfold rK at h⊢;split at h
 ·cases h
 ·rename_i b;injection h with h;subst h
  have a:¬ (has (s.tt t).u d||Nat.ble 450000 d)=true:=b;rw[kb a];exact⟨rfl,rfl⟩
theorem Yn{s}{t}{n}{lo a}(b:∀x,lo=some x→(s.tt t).ev x=s.ev x)(c:∀x,a=some x→(s.tt t).ev x=s.ev x):lq (s.tt t) n lo a=lq s n lo a:=by
 unfold lq
 grind
theorem Ux(s:AS) t:(s.tt t).r=s.r:=rfl
theorem adJ{s:AS}{t:h8}{v:AV}{lo a:Option Operand}(b:∀x,lo=some x→(s.tt t).ev x=s.ev x)(c:∀x,a=some x→(s.tt t).ev x=s.ev x):kL (s.tt t) v lo a=kL s v lo a:=by
 unfold kL;split<;>simp[Yn b c,Ux]
theorem UL{P:Program}{s:AS}{t:h8}{o:Oper}(b:∀x∈o.op.operands.toList,(s.tt t).ev x=s.ev x):l4 P (s.tt t) o=l4 P s o:=by
 unfold l4;cases a:o.op with
 | nilCheck x=>simp only[b x (by simp[a,Op.operands])]
 | field T x f=>simp only[b x (by simp[a,Op.operands])]
 | index T x i=>simp only[b x (by simp[a,Op.operands]),b i (by simp[a,Op.operands])]
 | convert S D x=>simp only[b x (by simp[a,Op.operands])]
 | makeFunc c n cs =>
  cases c with
  | func g =>
   simp only[];unfold EL;split
   ·rename_i x j p;simp only[b x (by simp[a,Op.operands,← Array.mem_toList_iff,j])]
   ·rfl
  | _=>rfl
 | binOp op T x y l=>simp only[b x (by simp[a,Op.operands]),b y (by simp[a,Op.operands])]
 | slice T x lo k mx =>
  cases mx with
  | some m=>rfl
  | none =>
   have d:∀y,lo=some y→(s.tt t).ev y=s.ev y:=fun y e=>b y (by subst e;simp[a,Op.operands]);have h:∀y,k=some y→(s.tt t).ev y=s.ev y:=fun y e=>b y (by subst e;simp[a,Op.operands]);simp only[b x (by simp[a,Op.operands]),adJ d h,Ux]
 | _=>rfl
theorem Mo s t v:oe (s.tt t) v=oe s v:=by rfl
theorem aah s t v:ug (s.tt t) v=ug s v:=by
 simp_all[ug,Mo]
theorem aa0{P:Program}{s s':AS}{t:h8}{T:TypeId}{u v r:AV}(h:wh P s T u v=some (s',r)):s'.t=s.t∧wh P (s.tt t) T u v=some (s'.tt t,r):=by
 unfold wh at h⊢;rw[Mo,aah];split at h
 ·rename_i c d e;split at h
  ·rename_i f;injection h with h;injection h with a b;subst a;subst b
   refine⟨rfl,?_⟩
   (try simp only[c,d,e])
   rw[lc f];rfl
  ·cases h
 ·cases h
theorem abC{P:Program}{n:Nat}{s s':AS}{o:Oper}(t:h8)(h:cb P n s o=some s')(J:∀c,o.op=.call c→c.callee ≠ .builtin .append)(l:∀x∈o.op.operands.toList,(s.tt t).ev x=s.ev x):
  ∃v,s'.t=(s.put o.dst v).t∧cb P n (s.tt t) o=some (s'.tt ((s.tt t).put o.dst v).t):=by
 unfold cb at h⊢;split at h
 case isFalse=>cases h
 rename_i O;rw[lc O];have N:∀v,s.put o.dst v=(s.put o.dst v).tt (s.put o.dst v).t:=fun v=>rfl;have F:∀{q:AS} {v},q.t=s.t→(q.tt t).put o.dst v=(q.put o.dst v).tt ((s.tt t).put o.dst v).t:=fun {q v} M=>by cases h:o.dst<;>rfl
 have g:∀v,(s.tt t).put o.dst v=(s.put o.dst v).tt ((s.tt t).put o.dst v).t:=fun v=>by cases h:o.dst<;>rfl
 cases a:o.op with
 | move x =>
  simp only[a]at h⊢;rw[l x (by simp[a,Op.operands])];split at h
  ·rename_i v k;injection h with h;subst h;exact⟨v,rfl,by (try simp only[k]);rw[←g]⟩
  ·cases h
 | assign x =>
  simp only[a]at h⊢;rw[l x (by simp[a,Op.operands])];split at h
  ·rename_i v k;injection h with h;subst h;exact⟨v,rfl,by (try simp only[k]);rw[←g]⟩
  ·cases h
 | pick c x y =>
  simp only[a]at h⊢;rw[l c (by simp[a,Op.operands]),l x (by simp[a,Op.operands]),l y (by simp[a,Op.operands])];split at h
  ·rename_i b B;split at h
   ·rename_i v k;injection h with h;subst h;exact⟨v,rfl,by (try simp only[B,k]);rw[←g]⟩
   ·cases h
  ·cases h
 | alloc T =>
  simp only[a]at h⊢;split at h
  ·rename_i d cs m U;obtain⟨D,E⟩:=Pf (t:=t) h;refine⟨.ptr d 0,by rw[m];exact D,?_⟩;simp only[m,U];rw[E];rfl
  ·cases h
 | box T x =>
  simp only[a]at h⊢;rw[l x (by simp[a,Op.operands])];split at h
  ·rename_i d v m k;split at h
   ·rename_i cs K;obtain⟨D,E⟩:=Pf (t:=t) h;refine⟨.ptr d 0,by rw[m];exact D,?_⟩;simp only[m,k,K];rw[E];rfl
   ·cases h
  ·cases h
 | load T x =>
  simp only[a]at h⊢;rw[l x (by simp[a,Op.operands])];split at h
  ·rename_i p w;split at h
   ·rename_i v k;injection h with h;subst h;exact⟨v,rfl,by (try simp only[w,ZE,k]);rw[←g]⟩
   ·cases h
  ·cases h
 | store T x y =>
  simp only[a]at h⊢;rw[l x (by simp[a,Op.operands]),l y (by simp[a,Op.operands])];split at h
  ·rename_i p v m w k;obtain⟨D,E⟩:=abZ (t:=t) h;refine⟨.nilp,by rw[m];exact D,?_⟩;simp only[m,w,k];rw[E];rfl
  ·cases h
 | fieldAddr T x f =>
  simp only[a]at h⊢;rw[l x (by simp[a,Op.operands])];split at h
  ·rename_i p w;split at h
   ·rename_i v k;injection h with h;subst h;exact⟨v,rfl,by (try simp only[w,k]);rw[←g]⟩
   ·cases h
  ·cases h
 | indexAddr T x y =>
  simp only[a]at h⊢;rw[l x (by simp[a,Op.operands]),l y (by simp[a,Op.operands])];split at h
  ·rename_i p j w Q;split at h
   ·rename_i v k;injection h with h;subst h;exact⟨v,rfl,by (try simp only[w,Q,acA,k]);rw[←g]⟩
   ·cases h
  ·cases h
 | build T parts =>
  simp only[a]at h⊢;have e:wg P (s.tt t) T parts.toList=wg P s T parts.toList:=by
   unfold wg;rw[IP (fun p w=>l p.2 (by simp[a,Op.operands];exact⟨p.1,Do.1 w⟩))]
  rw[e];split at h
  ·rename_i v k;injection h with h;subst h;exact⟨v,rfl,by (try simp only[k]);rw[←g]⟩
  ·cases h
 | buildSlice T H parts =>
  simp only[a]at h⊢;have e:n8 P (s.tt t) T H parts.toList=n8 P s T H parts.toList:=by
   unfold n8;rw[IP (fun p w=>l p.2 (by simp[a,Op.operands];exact⟨p.1,Do.1 w⟩))];rfl
  rw[e];split at h
  ·rename_i v k;injection h with h;subst h;exact⟨v,rfl,by (try simp only[k]);rw[←g]⟩
  ·cases h
 | makeSlice T x y =>
  simp only[a]at h⊢;have e:uR P (s.tt t) T x y=uR P s T x y:=by
   unfold uR;rw[l x (by simp[a,Op.operands]),l y (by simp[a,Op.operands])]
  rw[e];split at h
  ·rename_i v k;injection h with h;subst h;exact⟨v,rfl,by (try simp only[k]);rw[←g]⟩
  ·cases h
 | extract x i =>
  simp only[a]at h⊢;rw[l x (by simp[a,Op.operands])];split at h
  ·rename_i p w;split at h
   ·rename_i v k;injection h with h;subst h;exact⟨v,rfl,by (try simp only[w,k]);rw[←g]⟩
   ·cases h
  ·cases h
 | binOp op T x y X =>
  simp only[a]at h⊢;rw[l x (by simp[a,Op.operands]),l y (by simp[a,Op.operands])];have z:=UL (P:=P) (t:=t) l;split at h
  ·rename_i u v G k;split at h
   ·rename_i r C;injection h with h;subst h;exact⟨r,rfl,by (try simp only[G,k,C]);rw[←g]⟩
   ·rename_i C;split at h
    ·rename_i r L;injection h with h;subst h;exact⟨r,rfl,by (try simp only[G,k,C,z,L]);rw[←g]⟩
    ·cases h
  ·cases h
 | unOp op T x =>
  simp only[a]at h⊢;rw[l x (by simp[a,Op.operands])];split at h
  ·rename_i u G;split at h
   ·rename_i r C;injection h with h;subst h;exact⟨r,rfl,by (try simp only[G,C]);rw[←g]⟩
   ·cases h
  ·cases h
 | call c =>
  simp only[a]at h⊢;split at h
  ·rename_i B;exact(J c a B).elim
  ·rename_i B;split at h
   ·rename_i x y T T' A I;split at h
    ·rename_i u v G k;split at h
     ·rename_i q M;injection h with h;subst h
      have z:=l x (by simp[a,Op.operands,Call.operands,B];exact Do.1 (by rw[A];simp));have S:=l y (by simp[a,Op.operands,Call.operands,B];exact Do.1 (by rw[A];simp));obtain⟨V,W⟩:=q;obtain⟨D,E⟩:=aa0 (t:=t) M;refine⟨W,?_,?_⟩
      ·have:V.t=s.t:=D;cases o.dst<;>simp[AS.put,this]
      ·(try simp only[z,S,G,k,E]);rw[←F D]
     ·cases h
    ·cases h
   ·cases h
  ·rename_i b R _ B;split at h
   ·rename_i r C;injection h with h;subst h
    have e:oI P (s.tt t) b c.args.toList c.argTypes.toList=oI P s b c.args.toList c.argTypes.toList:=by
     have z:dk (s.tt t) c.args.toList=dk s c.args.toList:=qu (fun x z=>l x (by simp[a,Op.operands,Call.operands,B];exact Do.1 z));unfold oI;split
     ·split
      ·rename_i x T A I;rw[A]at z;have:=l x (by simp[a,Op.operands,Call.operands,B];exact Do.1 (by rw[A];simp));rw[this];split<;>rfl
      ·rfl
     ·rw[z]
     ·rw[z]
     ·rfl
    refine⟨r,rfl,?_⟩;rw[e]
    (try simp only[C]);rw[←g]
   ·cases h
  ·cases h
 | _ =>
  have z:=UL (P:=P) (t:=t) l;simp only[a]at h⊢;split at h
  ·rename_i r C;injection h with h;subst h;exact⟨r,rfl,by simp only[z,C];rw[←g]⟩
  ·cases h
def cu(ok:Nat→Bool):h8→h8
 | []=>[]
 | (k,v)::r=>if ok k=true then (k,v)::cu ok r else cu ok r
theorem eQ{ok}:∀l k,look k (cu ok l)=if ok k=true then look k l else none
 | [],k=>by simp[cu,look]
 | (j,x)::r,k=>by
  unfold cu;by_cases a:ok j=true
  ·rw[lc a];simp only[look,eQ r k]
   grind
  ·rw[kb a,eQ r k];grind[look]
theorem tE{ok}{id}:∀l,dF id (cu ok l)=cu ok (dF id l)
 | []=>rfl
 | (j,x)::r=>by
  have b:cu ok ((j,x)::r)=if ok j=true then (j,x)::cu ok r else cu ok r:=rfl;have c:dF id ((j,x)::r)=(j,x.cY id)::dF id r:=rfl;have d:cu ok ((j,x.cY id)::dF id r)=if ok j=true then (j,x.cY id)::cu ok (dF id r) else cu ok (dF id r):=rfl;rw[b,c,d];by_cases a:ok j=true
  ·rw[lc a,lc a,← tE r];rfl
  ·rw[kb a,kb a,tE r]
theorem aiN{P:Program}{n:Nat}{s s':AS}{o:Oper}{ok:Nat→Bool}(h:cb P n s o=some s')(O:∀x t,x∈o.op.operands.toList→x=.tmp t→ok t=true):
  ∃F,cb P n (s.tt (cu ok s.t)) o=some F∧F.o=s'.o∧F.r=s'.r∧F.u=s'.u∧∀k v,ok k=true∨some k=o.dst→look k s'.t=some v→look k F.t=some v:=by
 have z:∀x∈o.op.operands.toList,(s.tt (cu ok s.t)).ev x=s.ev x:=fun x L=>by
  cases x with
  | tmp t=>show look t (cu ok s.t)=look t s.t;rw[eQ,lc (O _ t L rfl)]
  | const v=>rfl
  | func f=>rfl
  | global g=>rfl
 by_cases B:∀c,o.op=.call c→c.callee ≠ .builtin .append
 ·obtain⟨v,M,N⟩:=abC (cu ok s.t) h B z;refine⟨_,N,rfl,rfl,rfl,fun k u a j=>?_⟩;show look k ((s.tt (cu ok s.t)).put o.dst v).t=some u;rw[M]at j;cases G:o.dst with
  | none =>
   rw[G]at j a;rcases a with a|a
   ·show look k (cu ok s.t)=some u;rw[eQ,lc a];exact j
   ·cases a
  | some d =>
   rw[G]at j a;simp only[AS.put,cv]at j⊢;by_cases e:k=d
   ·rw[lc e]at j⊢;exact j
   ·rw[kb e]at j⊢;rcases a with a|a
    ·show look k (cu ok s.t)=some u;rw[eQ,lc a];exact j
    ·injection a with a;exact(e a).elim
 ·have C:∃c,o.op=.call c∧c.callee=.builtin .append:=by
   refine afF fun Q=>B fun c E i=>Q ⟨c,E,i⟩
  obtain⟨c,E,i⟩:=C;unfold cb at h⊢;split at h
  case isFalse=>cases h
  rename_i G;rw[lc G];simp only[E,i]at h⊢;split at h
  ·rename_i x y T T' d A I K;split at h
   ·rename_i H;have L:=z x (by simp[E,Op.operands,Call.operands,i];exact Do.1 (by rw[A];simp));have U:=z y (by simp[E,Op.operands,Call.operands,i];exact Do.1 (by rw[A];simp));split at h
    ·rename_i v u S j;simp only[A,I,K,lc H,L,U,S,j];unfold vN at h⊢;split at h
     ·rename_i e sz bytes R;simp only[ahJ]at h⊢;split at h
      ·rename_i new q;split at h
       ·split at h
        ·cases h
        ·rename_i b;injection h with h;subst h
         have p:¬ (has (s.tt (cu ok s.t)).u d=true∨¬ (new.length≤maxLen∧new.length*bytes≤140737488355328)):=b;refine⟨{ t:=bm d (.ref d) (dF d (cu ok s.t)),o:=fK d s.o,r:=bm d ⟨e,sz,new⟩ s.r,u:=d::s.u },by (try simp only[q]);rw[kb p];rfl,rfl,rfl,rfl,fun k w a m=>?_⟩;simp only[cv]at m⊢;by_cases e:k=d
         ·rw[lc e]at m⊢;exact m
         ·rw[kb e]at m⊢;rcases a with a|a
          ·show look k (dF d (cu ok s.t))=some w;rw[tE,eQ,lc a];exact m
          ·injection a with a;exact(e a).elim
       ·rename_i id;split at h
        ·rename_i ar J;split at h
         ·rename_i b;injection h with h;subst h
          have D:look id (s.tt (cu ok s.t)).r=some ar:=J;refine⟨{ t:=bm d (.ref id) (dF id (cu ok s.t)),o:=fK id s.o,r:=bm id { ar with l:=ar.l++new } s.r,u:=s.u },by (try simp only[q]);simp only[D];rw[lc (show(s.tt (cu ok s.t)).u.contains (da id)=false∧ar.e=e∧ar.sz=sz∧ar.l.length+new.length≤maxLen∧(ar.l.length+new.length)*bytes≤140737488355328 from b)];rfl,rfl,rfl,rfl,fun k w a m=>?_⟩;simp only[cv]at m⊢;by_cases e:k=d
          ·rw[lc e]at m⊢;exact m
          ·rw[kb e]at m⊢;rcases a with a|a
           ·show look k (dF id (cu ok s.t))=some w;rw[tE,eQ,lc a];exact m
           ·injection a with a;exact(e a).elim
         ·cases h
        ·cases h
       ·cases h
      ·cases h
     ·cases h
    ·cases h
   ·cases h
  ·cases h
end Go.Proofs.YtocgkfoifehcbaaGreat

/- An operation looks at its operands alone: what else is known of the slots makes no difference. No program in sight. -/
import Derived.Test.YtkciiamllegclaaSvZ0
import Derived.ChangeArms
import Derived.WideShapes
import Derived.SizedLaws
import Derived.ArgAppend
namespace Go.Proofs.Ytkciiamllegclaa
set_option linter.all false
abbrev bl:=List AV
abbrev b6:=List aw
abbrev dO:=Nat×AV
abbrev em:=List AS
def rv:=@Array.mem_toList_iff
def tl:=@Bool.or_eq_true
def u2:=@List.mem_cons_self
def zE:=@List.mem_singleton
def zG:=@Bool.not_eq_true'
def zI:=@List.mem_iff_getElem
def zJ:=@List.any_eq_true
def zX:=@Array.all_eq_true_iff_forall_mem
def zZ:=@Array.getElem?_replicate
def z6:=@List.drop_zero
def z9:=@List.append_nil
def Aa:=@List.cons.injEq
def Ae:=@List.mem_cons_of_mem
def Aj:=@List.mem_filter
def Al:=@Array.getElem?_eq_none
def Ar:=@List.contains_iff_mem
def Au:=@Bool.false_or
def AA:=@List.all_append
def AB:=@beq_eq_false_iff_ne
def AD:=@Array.getElem?_eq_none_iff
def AE:=@Array.ext_getElem?
def AG:=@List.drop_eq_getElem_cons
def AM:=@List.getElem?_cons_succ
def AN:=@List.getElem?_cons_zero
def AU:=@List.sum_replicate_nat
def A3:=@List.take_zero
def A6:=@List.length_pos_iff
def A9:=@Nat.sub_self
variable[ZX]
open Go.RowKit
variable[FM]
def AS.tt(s:AS)(t:List dO):AS:={ s with t:=t }
theorem xM(s:AS) t p:(s.tt t).mem p=s.mem p:=by rfl
theorem uE P s t T p:ep P (s.tt t) T p=ep P s T p:=by grind[ep,xM]
theorem tJ P s t T x j:gj P (s.tt t) T x j=gj P s T x j:=rfl
theorem tK s t sz x:eG (s.tt t) sz x=eG s sz x:=rfl
theorem ij{s}{t}:∀{xs},(∀x∈xs,(s.tt t).ev x=s.ev x)→bJ (s.tt t) xs=bJ s xs
 | [],_=>rfl
 | x::r,h=>by
  unfold bJ;rw[h x u2,ij (fun y a=>h y (by grind))]
theorem nh{s}{t}:∀{ps},(∀p∈ps,(s.tt t).ev p.2=s.ev p.2)→dW (s.tt t) ps=dW s ps
 | [],_=>rfl
 | (i,x)::r,h=>by
  unfold dW;have a:(s.tt t).ev x=s.ev x:=h (i,x) u2;rw[a,nh (fun y b=>h y (by grind))]
theorem vk{P:Program}{s s':AS}{t:List dO}{T:TypeId}{p v:AV}(h:fX P s T p v=some s'):s'.t=s.t∧fX P (s.tt t) T p v=some (s'.tt t):=by
 unfold fX at h⊢;split at h
 ·rename_i id off;split at h
  ·rename_i f i b c;split at h
   ·rename_i d;injection h with h;subst h
    refine⟨rfl,?_⟩;have a:look id (s.tt t).o=some f:=b;simp only[a,c];rw[l2 d];rfl
   ·cases h
  ·cases h
 ·rename_i id sz j off;split at h
  ·rename_i ar i b c;split at h
   ·rename_i e g;split at h
    ·rename_i d;injection h with h;subst h
     refine⟨rfl,?_⟩;have a:look id (s.tt t).r=some ar:=b;simp only[a,c,g];rw[l2 d];rfl
    ·cases h
   ·cases h
  ·cases h
 grind
theorem pI{s s':AS}{t:List dO}{d:Nat}{b:bl}(h:fP s d b=some s'):s'.t=aD d (.ptr d 0) s.t∧fP (s.tt t) d b=some (s'.tt (aD d (.ptr d 0) t)):=by
 unfold fP at h⊢;split at h
 ·cases h
 ·rename_i c;injection h with h;subst h
  have a:¬ (has (s.tt t).u d||Nat.ble 450000 d)=true:=c;rw[o9 a];exact⟨rfl,rfl⟩
theorem uP{s}{t}{n}{lo a}(b:∀x,lo=some x→(s.tt t).ev x=s.ev x)(c:∀x,a=some x→(s.tt t).ev x=s.ev x):fk (s.tt t) n lo a=fk s n lo a:=by
 unfold fk
 grind
theorem rA(s:AS) t:(s.tt t).r=s.r:=rfl
theorem vw{s:AS}{t:List dO}{v:AV}{lo a:Option Operand}(b:∀x,lo=some x→(s.tt t).ev x=s.ev x)(c:∀x,a=some x→(s.tt t).ev x=s.ev x):ey (s.tt t) v lo a=ey s v lo a:=by
 unfold ey;split<;>simp[uP b c,rA]
theorem qP{P:Program}{s:AS}{t:List dO}{o:Oper}(b:∀x∈o.op.operands.toList,(s.tt t).ev x=s.ev x):fg P (s.tt t) o=fg P s o:=by
 unfold fg;cases a:o.op with
 | nilCheck x=>simp only[b x (by simp[a,Op.operands])]
 | field T x f=>simp only[b x (by simp[a,Op.operands])]
 | index T x i=>simp only[b x (by simp[a,Op.operands]),b i (by simp[a,Op.operands])]
 | convert S D x=>simp only[b x (by simp[a,Op.operands])]
 | makeFunc c p q =>
  cases c with
  | func g =>
   simp only[];unfold nK;split
   ·rename_i x j r;simp only[b x (by simp[a,Op.operands,← Array.mem_toList_iff,j])]
   ·rfl
  | _=>rfl
 | binOp u T x y n=>simp only[b x (by simp[a,Op.operands]),b y (by simp[a,Op.operands])]
 | slice T x lo k l =>
  cases l with
  | some m=>rfl
  | none =>
   have d:∀y,lo=some y→(s.tt t).ev y=s.ev y:=fun y e=>b y (by subst e;simp[a,Op.operands]);have h:∀y,k=some y→(s.tt t).ev y=s.ev y:=fun y e=>b y (by subst e;simp[a,Op.operands]);simp only[b x (by simp[a,Op.operands]),vw d h,rA]
 | _=>rfl
theorem oK s t v:eY (s.tt t) v=eY s v:=by rfl
theorem tk s t v:gG (s.tt t) v=gG s v:=by
 simp_all[gG,oK]
theorem sW{P:Program}{s s':AS}{t:List dO}{T:TypeId}{u v r:AV}(h:gH P s T u v=some (s',r)):s'.t=s.t∧gH P (s.tt t) T u v=some (s'.tt t,r):=by
 unfold gH at h⊢;rw[oK,tk];split at h
 ·rename_i c d e;split at h
  ·rename_i f;injection h with h;injection h with a b;subst a;subst b
   refine⟨rfl,?_⟩
   (try simp only[c,d,e])
   rw[l2 f];rfl
  ·cases h
 ·cases h
theorem y2{P:Program}{n:Nat}{s s':AS}{o:Oper}(t:List dO)(h:aH P n s o=some s')(K:∀c,o.op=.call c→c.callee ≠ .builtin .append)(l:∀x∈o.op.operands.toList,(s.tt t).ev x=s.ev x):
  ∃v,s'.t=(s.put o.dst v).t∧aH P n (s.tt t) o=some (s'.tt ((s.tt t).put o.dst v).t):=by
 unfold aH at h⊢;split at h
 case isFalse=>cases h
 rename_i R;rw[l2 R];have O:∀v,s.put o.dst v=(s.put o.dst v).tt (s.put o.dst v).t:=fun v=>rfl;have G:∀{q:AS} {v},q.t=s.t→(q.tt t).put o.dst v=(q.put o.dst v).tt ((s.tt t).put o.dst v).t:=fun {q v} N=>by cases h:o.dst<;>rfl
 have g:∀v,(s.tt t).put o.dst v=(s.put o.dst v).tt ((s.tt t).put o.dst v).t:=fun v=>by cases h:o.dst<;>rfl
 cases a:o.op with
 | move x =>
  simp only[a]at h⊢;rw[l x (by simp[a,Op.operands])];split at h
  ·rename_i v k;injection h with h;subst h;exact⟨v,rfl,by (try simp only[k]);rw[←g]⟩
  ·cases h
 | assign x =>
  simp only[a]at h⊢;rw[l x (by simp[a,Op.operands])];split at h
  ·rename_i v k;injection h with h;subst h;exact⟨v,rfl,by (try simp only[k]);rw[←g]⟩
  ·cases h
 | pick c x y =>
  simp only[a]at h⊢;rw[l c (by simp[a,Op.operands]),l x (by simp[a,Op.operands]),l y (by simp[a,Op.operands])];split at h
  ·rename_i b C;split at h
   ·rename_i v k;injection h with h;subst h;exact⟨v,rfl,by (try simp only[C,k]);rw[←g]⟩
   ·cases h
  ·cases h
 | alloc T =>
  simp only[a]at h⊢;split at h
  ·rename_i d Q w W;obtain⟨E,F⟩:=pI (t:=t) h;refine⟨.ptr d 0,by rw[w];exact E,?_⟩;simp only[w,W];rw[F];rfl
  ·cases h
 | box T x =>
  simp only[a]at h⊢;rw[l x (by simp[a,Op.operands])];split at h
  ·rename_i d v w k;split at h
   ·rename_i Q L;obtain⟨E,F⟩:=pI (t:=t) h;refine⟨.ptr d 0,by rw[w];exact E,?_⟩;simp only[w,k,L];rw[F];rfl
   ·cases h
  ·cases h
 | load T x =>
  simp only[a]at h⊢;rw[l x (by simp[a,Op.operands])];split at h
  ·rename_i p z;split at h
   ·rename_i v k;injection h with h;subst h;exact⟨v,rfl,by (try simp only[z,uE,k]);rw[←g]⟩
   ·cases h
  ·cases h
 | store T x y =>
  simp only[a]at h⊢;rw[l x (by simp[a,Op.operands]),l y (by simp[a,Op.operands])];split at h
  ·rename_i p v w z k;obtain⟨E,F⟩:=vk (t:=t) h;refine⟨.nilp,by rw[w];exact E,?_⟩;simp only[w,z,k];rw[F];rfl
  ·cases h
 | fieldAddr T x f =>
  simp only[a]at h⊢;rw[l x (by simp[a,Op.operands])];split at h
  ·rename_i p z;split at h
   ·rename_i v k;injection h with h;subst h;exact⟨v,rfl,by (try simp only[z,k]);rw[←g]⟩
   ·cases h
  ·cases h
 | indexAddr T x y =>
  simp only[a]at h⊢;rw[l x (by simp[a,Op.operands]),l y (by simp[a,Op.operands])];split at h
  ·rename_i p j z S;split at h
   ·rename_i v k;injection h with h;subst h;exact⟨v,rfl,by (try simp only[z,S,tJ,k]);rw[←g]⟩
   ·cases h
  ·cases h
 | build T m =>
  simp only[a]at h⊢;have e:gl P (s.tt t) T m.toList=gl P s T m.toList:=by
   unfold gl;rw[nh (fun p z=>l p.2 (by simp[a,Op.operands];exact⟨p.1,rv.1 z⟩))]
  rw[e];split at h
  ·rename_i v k;injection h with h;subst h;exact⟨v,rfl,by (try simp only[k]);rw[←g]⟩
  ·cases h
 | buildSlice T I m =>
  simp only[a]at h⊢;have e:gJ P (s.tt t) T I m.toList=gJ P s T I m.toList:=by
   unfold gJ;rw[nh (fun p z=>l p.2 (by simp[a,Op.operands];exact⟨p.1,rv.1 z⟩))];rfl
  rw[e];split at h
  ·rename_i v k;injection h with h;subst h;exact⟨v,rfl,by (try simp only[k]);rw[←g]⟩
  ·cases h
 | makeSlice T x y =>
  simp only[a]at h⊢;have e:gi P (s.tt t) T x y=gi P s T x y:=by
   unfold gi;rw[l x (by simp[a,Op.operands]),l y (by simp[a,Op.operands])]
  rw[e];split at h
  ·rename_i v k;injection h with h;subst h;exact⟨v,rfl,by (try simp only[k]);rw[←g]⟩
  ·cases h
 | extract x i =>
  simp only[a]at h⊢;rw[l x (by simp[a,Op.operands])];split at h
  ·rename_i p z;split at h
   ·rename_i v k;injection h with h;subst h;exact⟨v,rfl,by (try simp only[z,k]);rw[←g]⟩
   ·cases h
  ·cases h
 | binOp X T x y Ty =>
  simp only[a]at h⊢;rw[l x (by simp[a,Op.operands]),l y (by simp[a,Op.operands])];have A:=qP (P:=P) (t:=t) l;split at h
  ·rename_i u v H k;split at h
   ·rename_i r D;injection h with h;subst h;exact⟨r,rfl,by (try simp only[H,k,D]);rw[←g]⟩
   ·rename_i D;split at h
    ·rename_i r M;injection h with h;subst h;exact⟨r,rfl,by (try simp only[H,k,D,A,M]);rw[←g]⟩
    ·cases h
  ·cases h
 | unOp X T x =>
  simp only[a]at h⊢;rw[l x (by simp[a,Op.operands])];split at h
  ·rename_i u H;split at h
   ·rename_i r D;injection h with h;subst h;exact⟨r,rfl,by (try simp only[H,D]);rw[←g]⟩
   ·cases h
  ·cases h
 | call c =>
  simp only[a]at h⊢;split at h
  ·rename_i C;exact(K c a C).elim
  ·rename_i C;split at h
   ·rename_i x y T T' B J;split at h
    ·rename_i u v H k;split at h
     ·rename_i q N;injection h with h;subst h
      have A:=l x (by simp[a,Op.operands,Call.operands,C];exact rv.1 (by rw[B];simp));have V:=l y (by simp[a,Op.operands,Call.operands,C];exact rv.1 (by rw[B];simp));obtain⟨Y,Z⟩:=q;obtain⟨E,F⟩:=sW (t:=t) N;refine⟨Z,?_,?_⟩
      ·have:Y.t=s.t:=E;cases o.dst<;>simp[AS.put,this]
      ·(try simp only[A,V,H,k,F]);rw[←G E]
     ·cases h
    ·cases h
   ·cases h
  ·rename_i b U _ C;split at h
   ·rename_i r D;injection h with h;subst h
    have e:eL P (s.tt t) b c.args.toList c.argTypes.toList=eL P s b c.args.toList c.argTypes.toList:=by
     have A:bJ (s.tt t) c.args.toList=bJ s c.args.toList:=ij (fun x A=>l x (by simp[a,Op.operands,Call.operands,C];exact rv.1 A));unfold eL;split
     ·split
      ·rename_i x T B J;rw[B]at A;have:=l x (by simp[a,Op.operands,Call.operands,C];exact rv.1 (by rw[B];simp));rw[this];split<;>rfl
      ·rfl
     ·rw[A]
     ·rw[A]
     ·rfl
    refine⟨r,rfl,?_⟩;rw[e]
    (try simp only[D]);rw[←g]
   ·cases h
  ·cases h
 | _ =>
  have A:=qP (P:=P) (t:=t) l;simp only[a]at h⊢;split at h
  ·rename_i r D;injection h with h;subst h;exact⟨r,rfl,by simp only[A,D];rw[←g]⟩
  ·cases h
def aU(ok:Nat→Bool):List dO→List dO
 | []=>[]
 | (k,v)::r=>if ok k=true then (k,v)::aU ok r else aU ok r
theorem cA{ok}:∀l k,look k (aU ok l)=if ok k=true then look k l else none
 | [],k=>by simp[aU,look]
 | (j,x)::r,k=>by
  unfold aU;by_cases a:ok j=true
  ·rw[l2 a];simp only[look,cA r k]
   grind
  ·rw[o9 a,cA r k];grind[look]
theorem ky{ok}{id}:∀l,bR id (aU ok l)=aU ok (bR id l)
 | []=>rfl
 | (j,x)::r=>by
  have b:aU ok ((j,x)::r)=if ok j=true then (j,x)::aU ok r else aU ok r:=rfl;have c:bR id ((j,x)::r)=(j,x.bp id)::bR id r:=rfl;have d:aU ok ((j,x.bp id)::bR id r)=if ok j=true then (j,x.bp id)::aU ok (bR id r) else aU ok (bR id r):=rfl;rw[b,c,d];by_cases a:ok j=true
  ·rw[l2 a,l2 a,← ky r];rfl
  ·rw[o9 a,o9 a,ky r]
theorem tc{P:Program}{n:Nat}{s s':AS}{o:Oper}{ok:Nat→Bool}(h:aH P n s o=some s')(O:∀x t,x∈o.op.operands.toList→x=.tmp t→ok t=true):
  ∃F,aH P n (s.tt (aU ok s.t)) o=some F∧F.o=s'.o∧F.r=s'.r∧F.u=s'.u∧∀k v,ok k=true∨some k=o.dst→look k s'.t=some v→look k F.t=some v:=by
 have z:∀x∈o.op.operands.toList,(s.tt (aU ok s.t)).ev x=s.ev x:=fun x L=>by
  cases x with
  | tmp t=>show look t (aU ok s.t)=look t s.t;rw[cA,l2 (O _ t L rfl)]
  | const v=>rfl
  | func f=>rfl
  | global g=>rfl
 by_cases B:∀c,o.op=.call c→c.callee ≠ .builtin .append
 ·obtain⟨v,M,N⟩:=y2 (aU ok s.t) h B z;refine⟨_,N,rfl,rfl,rfl,fun k u a j=>?_⟩;show look k ((s.tt (aU ok s.t)).put o.dst v).t=some u;rw[M]at j;cases G:o.dst with
  | none =>
   rw[G]at j a;rcases a with a|a
   ·show look k (aU ok s.t)=some u;rw[cA,l2 a];exact j
   ·cases a
  | some d =>
   rw[G]at j a;simp only[AS.put,bz]at j⊢;by_cases e:k=d
   ·rw[l2 e]at j⊢;exact j
   ·rw[o9 e]at j⊢;rcases a with a|a
    ·show look k (aU ok s.t)=some u;rw[cA,l2 a];exact j
    ·injection a with a;exact(e a).elim
 ·have C:∃c,o.op=.call c∧c.callee=.builtin .append:=by
   refine Classical.byContradiction fun Q=>B fun c E i=>Q ⟨c,E,i⟩
  obtain⟨c,E,i⟩:=C;unfold aH at h⊢;split at h
  case isFalse=>cases h
  rename_i G;rw[l2 G];simp only[E,i]at h⊢;split at h
  ·rename_i x y T T' d A I K;split at h
   ·rename_i H;have L:=z x (by simp[E,Op.operands,Call.operands,i];exact rv.1 (by rw[A];simp));have U:=z y (by simp[E,Op.operands,Call.operands,i];exact rv.1 (by rw[A];simp));split at h
    ·rename_i v u S j;simp only[A,I,K,l2 H,L,U,S,j];unfold jy at h⊢;split at h
     ·rename_i e sz bytes R;simp only[tK]at h⊢;split at h
      ·rename_i new q;split at h
       ·split at h
        ·cases h
        ·rename_i b;injection h with h;subst h
         have p:¬ (has (s.tt (aU ok s.t)).u d=true∨¬ (new.length≤maxLen∧new.length*bytes≤140737488355328)):=b;refine⟨{ t:=aD d (.ref d) (bR d (aU ok s.t)),o:=c9 d s.o,r:=aD d ⟨e,sz,new⟩ s.r,u:=d::s.u },by (try simp only[q]);rw[o9 p];rfl,rfl,rfl,rfl,fun k w a m=>?_⟩;simp only[bz]at m⊢;by_cases e:k=d
         ·rw[l2 e]at m⊢;exact m
         ·rw[o9 e]at m⊢;rcases a with a|a
          ·show look k (bR d (aU ok s.t))=some w;rw[ky,cA,l2 a];exact m
          ·injection a with a;exact(e a).elim
       ·rename_i id;split at h
        ·rename_i ar J;split at h
         ·rename_i b;injection h with h;subst h
          have D:look id (s.tt (aU ok s.t)).r=some ar:=J;refine⟨{ t:=aD d (.ref id) (bR id (aU ok s.t)),o:=c9 id s.o,r:=aD id { ar with l:=ar.l++new } s.r,u:=s.u },by (try simp only[q]);simp only[D];rw[l2 (show(s.tt (aU ok s.t)).u.contains (co id)=false∧ar.e=e∧ar.sz=sz∧ar.l.length+new.length≤maxLen∧(ar.l.length+new.length)*bytes≤140737488355328 from b)];rfl,rfl,rfl,rfl,fun k w a m=>?_⟩;simp only[bz]at m⊢;by_cases e:k=d
          ·rw[l2 e]at m⊢;exact m
          ·rw[o9 e]at m⊢;rcases a with a|a
           ·show look k (bR id (aU ok s.t))=some w;rw[ky,cA,l2 a];exact m
           ·injection a with a;exact(e a).elim
         ·cases h
        ·cases h
       ·cases h
      ·cases h
     ·cases h
    ·cases h
   ·cases h
  ·cases h
end Go.Proofs.Ytkciiamllegclaa
namespace Go.Proofs.Ytkciiamllegclaa
set_option linter.all false
variable[ZX]
open Go.RowKit
variable[FM]
mutual
def AV.cq(id a:Nat):AV→AV
 | .ref i=>if i=id then .ref a else .any
 | .ptr _ _=>.any
 | .pp _ _ _=>.any
 | .sit _ _ _ _=>.any
 | .adr g off=>.adr g off
 | .eptr _ _ _ _=>.any
 | .sref _ _ _ _=>.any
 | .agg d=>.agg (ft id a d)
 | .tup d=>.tup (ft id a d)
 | .int k n=>.int k n
 | .bool b=>.bool b
 | .str s=>.str s
 | .nils=>.nils
 | .sl l=>.sl l
 | .nilm=>.nilm
 | .mref _ _=>.any
 | .omp m=>.omp m
 | .osl e sz l=>.osl e sz l
 | .vv x=>.vv x
 | .lk _ _=>.any
 | .fn f c=>.fn f c
 | .fno _ _=>.any
 | .nilf=>.nilf
 | .nilp=>.nilp
 | .cptr d=>.cptr d
 | .any=>.any
def ft(id a:Nat):bl→bl
 | []=>[]
 | c::r=>c.cq id a::ft id a r
end
theorem oA{id a}:∀{l} {i:Nat} {x},(ft id a l)[i]?=some x→∃y,l[i]?=some y∧x=y.cq id a
 | [],i,x,h=>by grind[ft]
 | c::r,0,x,h=>by grind[ft]
 | c::r,i+1,x,h=>by simp only[AM]at h⊢;exact oA h
theorem nz{id a}:∀l,(ft id a l).length=l.length
 | []=>rfl
 | c::r=>by simp[ft,nz r]
theorem Rel.cq{N N':Nat→Prop}{w:World}{ι:Env}{v:AV}{x:Value}(h:Rel N w ι v x){id G:Nat}{ι':Env}(I:∀b,N' b→N b)(P:∀y,ι id=some y→ι' G=some y):Rel N' w ι' (v.cq id G) x:=by
 have K:∀{e:Env} {v:AV} {x:Value},Rel N w e v x→Rel N' w e v x:=fun h=>h.mono (io _) (fun b _ E=>I b E) (fun _ _ _=>rfl) (fun _ _ h=>h)
 induction h with
 | int ι k n=>exact .int _ _ _
 | bool ι b=>exact .bool _ _
 | str ι s=>exact .str _ _
 | nils ι=>exact .nils _
 | nilm ι=>simp only[AV.cq];exact .nilm _
 | mref ι i q r v h Q=>simp only[AV.cq];exact .any _ _ rfl
 | sl0 ι A c R=>exact .sl0 _ _ _ R
 | sl ι l b o c sz C T E L a J t F z=>simp only[AV.cq];exact .sl _ l b o c sz C T E (fun h=>L (I b h)) a J (fun j e S i x u=>K (t j e S i x u)) F
 | fn ι f p ys D t z=>exact .fn _ f p ys D (fun i c y a Q=>K (t i c y a Q))
 | fno ι f p ys D t z=>exact .any _ _ rfl
 | nilf ι=>exact .nilf _
 | nilp ι=>exact .nilp _
 | any ι x h=>exact .any _ _ h
 | ptr ι d off g h=>exact .any _ _ rfl
 | pp ι d g off h=>exact .any _ _ rfl
 | sit _ _ _ _ _ _ _ _ _=>exact .any _ _ rfl
 | adr ι g off=>exact .adr _ _ _
 | vv ι x h=>exact .vv _ _ h
 | lk ι i v x h a=>exact .any _ _ a
 | eptr ι d sz j off g n c h=>exact .any _ _ rfl
 | sref ι d sz off m n c U A B h V=>exact .any _ _ rfl
 | cptr ι H b o C E L a J t z=>simp only[AV.cq];exact .cptr _ H b o C E (fun h=>L (I b h)) a J (fun i x u=>K (t i x u))
 | ref ι d A n c h =>
  simp only[AV.cq];split
  ·rename_i e;subst e;exact .ref _ _ _ _ _ (P _ h)
  ·exact .any _ _ rfl
 | agg ι H vs D a t z =>
  refine .agg _ _ _ (by rw[nz];exact D) a (fun i x v u M=>?_);obtain⟨y,O,rfl⟩:=oA u;exact z i y v O M P
 | tup ι H vs D t z =>
  refine .tup _ _ _ (by rw[nz];exact D) (fun i x v u M=>?_);obtain⟨y,O,rfl⟩:=oA u;exact z i y v O M P
theorem HS.import{M:Nat→Prop}{w0:aC}{w J:World}{ι K:Env}{s s1:AS}(h:HS M w0 w ι s)(p:HS (NN M ι) (fU w) J K s1){id d:Nat}{ar:bw}{v:Value}(a0:id<TG)(F:K id=some v)(ha:look id s1.r=some ar)(hn:has s.u d=false):
  HS M w0 J (ext ι d v) { s with r:=aD d ar s.r,u:=d::s.u }∧(∀b,NN M (ext ι d v) b→NN (NN M ι) K b):=by
 have hl:=h.en p.below.plain;have V:=h.free hn;have f:∀g,bq (some v)=some g→w.heap.size≤g∧g<J.heap.size:=fun g m=>⟨((p.own id g (by rw[F];exact m)).1).elim (fun h=>h) (fun h=>h.elim),(p.own id g (by rw[F];exact m)).2⟩;have D:∀b,NN M (ext ι d v) b→NN (NN M ι) K b:=fun b o=>by
  rcases c8 o with o|o
  ·exact .inl o
  ·exact .inr ⟨id,by rw[F];exact o⟩
 have t:∀b,b<w.heap.size→NN M (ext ι d v) b→NN M ι b:=fun b E o=>by
  rcases c8 o with o|o
  ·exact o
  ·have:=(f b o).1;omega
 have Z:∀b,b<w.heap.size→¬ NN M ι b→J.heap[b]?=w.heap[b]?:=fun b E _=>p.below.plain.block b E;have U:=cz V v;refine⟨⟨hl.below,h.old,fun i y hy=>?_,fun i g m=>?_,fun i I g m l=>?_,fun i G n=>dC (h.ko i G n),fun i a n=>?_,fun i G n z=>?_,fun i a n z=>?_,fun i y z=>⟨U i y (h.pin i y z).1,kU (h.pin i y z).2⟩⟩,D⟩
 ·by_cases e:i=d
  ·subst e;exact fh _ _
  ·rw[aI _ _ e]at hy;exact dC (h.use i y hy)
 ·by_cases e:i=d
  ·subst e;rw[bA]at m;exact⟨.inl (Ap h.below.size (f g m).1),(f g m).2⟩
  ·rw[aI _ _ e]at m;exact⟨(h.own i g m).1,by have:=(h.own i g m).2;have:=p.below.plain.size;omega⟩
 ·by_cases e:i=d
  ·by_cases H:I=d
   ·omega
   ·subst e;rw[bA]at m;rw[aI _ _ H]at l;have:=(f g m).1;have:=(h.own I g l).2;omega
  ·by_cases H:I=d
   ·subst H;rw[bA]at l;rw[aI _ _ e]at m;have:=(f g l).1;have:=(h.own i g m).2;omega
   ·rw[aI _ _ e]at m;rw[aI _ _ H]at l;exact h.inj i I g m l
 ·simp only[bz]at n;by_cases e:i=d
  ·subst e;exact fh _ _
  ·rw[o9 e]at n;exact dC (h.kr i a n)
 ·have e:i≠d:=by rintro rfl;have:=h.ko i G n;rw[hn]at this;cases this
  rw[aI _ _ e]at z;obtain⟨g,T,vs,q,B,C⟩:=h.objs i G n z;exact⟨g,T,vs,(aI _ _ e).trans q,(p.below.plain.block g (h.own i g (by rw[q];rfl)).2).trans B,C.mono p.below.plain.size t Z U⟩
 ·simp only[bz]at n;by_cases e:i=d
  ·subst e;rw[l2 rfl]at n;injection n with n;subst n
   obtain⟨v',xs,q,⟨B,N⟩,C,O,P⟩:=p.arrz id ar ha (by rw[F];rfl);rw[F]at q;injection q with q;subst q
   refine⟨v,xs,bA _ _ _,⟨⟨B.1,?_⟩,N⟩,C,O,fun j Q S k c A=>?_⟩
   ·rcases B.2 with hz|⟨g,cap,L,r1,r2,r⟩
    ·exact .inl hz
    ·exact .inr ⟨g,cap,L,r1,zW _,r⟩
   ·obtain⟨x,X,W⟩:=P j Q S k c A;exact⟨x,X,.inl ((W.flat (by omega)).mono (io _) (fun b _ o=>D b o) (fun _ _ _=>rfl) (fun _ _ h=>h))⟩
  ·rw[o9 e]at n;rw[aI _ _ e]at z;obtain⟨v1,Y,q,B,C,O,P⟩:=h.arrz i a n z;refine⟨v1,Y,(aI _ _ e).trans q,du B (fun g l=>p.below.plain.block g (h.own i g (by rw[q];exact l)).2),C,O,fun j Q S k c A=>?_⟩;obtain⟨x,X,W⟩:=P j Q S k c A;exact⟨x,X,W.mono p.below.plain.size t Z (fun r R=>U _ _ R) (fun r R=>p.below.plain.block r (h.eW R)) (fun h=>h)⟩
theorem HS.wI{M:Nat→Prop}{w0:aC}{w H:World}{ι I:Env}{s s1:AS}(h:HS M w0 w ι s)(o:HS (NN M ι) (fU w) H I s1){id d:Nat}{ar:bw}{v:Value}(a0:id<TG)(E:I id=some v)(ha:look id s1.r=some ar)(S:ι d=none)(hu:has s.u d=true)(V:look d s.o=none)(W:look d s.r=some ar):
  HS M w0 H (ext ι d v) s∧(∀b,NN M (ext ι d v) b→NN (NN M ι) I b):=by
 have hl:=h.en o.below.plain;have f:∀g,bq (some v)=some g→w.heap.size≤g∧g<H.heap.size:=fun g m=>⟨((o.own id g (by rw[E];exact m)).1).elim (fun h=>h) (fun h=>h.elim),(o.own id g (by rw[E];exact m)).2⟩;have C:∀b,NN M (ext ι d v) b→NN (NN M ι) I b:=fun b n=>by
  rcases c8 n with n|n
  ·exact .inl n
  ·exact .inr ⟨id,by rw[E];exact n⟩
 have t:∀b,b<w.heap.size→NN M (ext ι d v) b→NN M ι b:=fun b D n=>by
  rcases c8 n with n|n
  ·exact n
  ·have:=(f b n).1;omega
 have Z:∀b,b<w.heap.size→¬ NN M ι b→H.heap[b]?=w.heap[b]?:=fun b D _=>o.below.plain.block b D;have R:=cz S v;refine⟨⟨hl.below,h.old,fun i y hy=>?_,fun i g m=>?_,fun i G g m l=>?_,h.ko,h.kr,fun i cs q u=>?_,fun i a q u=>?_,fun i y u=>⟨R i y (h.pin i y u).1,(h.pin i y u).2⟩⟩,C⟩
 ·by_cases e:i=d
  ·subst e;exact hu
  ·rw[aI _ _ e]at hy;exact h.use i y hy
 ·by_cases e:i=d
  ·subst e;rw[bA]at m;exact⟨.inl (Ap h.below.size (f g m).1),(f g m).2⟩
  ·rw[aI _ _ e]at m;exact⟨(h.own i g m).1,by have:=(h.own i g m).2;have:=o.below.plain.size;omega⟩
 ·by_cases e:i=d
  ·by_cases F:G=d
   ·omega
   ·subst e;rw[bA]at m;rw[aI _ _ F]at l;have:=(f g m).1;have:=(h.own G g l).2;omega
  ·by_cases F:G=d
   ·subst F;rw[bA]at l;rw[aI _ _ e]at m;have:=(f g l).1;have:=(h.own i g m).2;omega
   ·rw[aI _ _ e]at m;rw[aI _ _ F]at l;exact h.inj i G g m l
 ·have e:i≠d:=by rintro rfl;rw[V]at q;cases q
  rw[aI _ _ e]at u;obtain⟨g,T,vs,p,A,B⟩:=h.objs i cs q u;exact⟨g,T,vs,(aI _ _ e).trans p,(o.below.plain.block g (h.own i g (by rw[p];rfl)).2).trans A,B.mono o.below.plain.size t Z R⟩
 ·by_cases e:i=d
  ·subst e;rw[W]at q;injection q with q;subst q
   obtain⟨v',xs,p,⟨A,K⟩,B,L,N⟩:=o.arrz id ar ha (by rw[E];rfl);rw[E]at p;injection p with p;subst p
   refine⟨v,xs,bA _ _ _,⟨⟨A.1,?_⟩,K⟩,B,L,fun j O Q k c z=>?_⟩
   ·rcases A.2 with hz|⟨g,cap,J,r1,r2,r⟩
    ·exact .inl hz
    ·exact .inr ⟨g,cap,J,r1,zW _,r⟩
   ·obtain⟨x,X,U⟩:=N j O Q k c z;exact⟨x,X,.inl ((U.flat (by omega)).mono (io _) (fun b _ n=>C b n) (fun _ _ _=>rfl) (fun _ _ h=>h))⟩
  ·rw[aI _ _ e]at u;obtain⟨v1,Y,p,A,B,L,N⟩:=h.arrz i a q u;refine⟨v1,Y,(aI _ _ e).trans p,du A (fun g l=>o.below.plain.block g (h.own i g (by rw[p];exact l)).2),B,L,fun j O Q k c z=>?_⟩;obtain⟨x,X,U⟩:=N j O Q k c z;exact⟨x,X,U.mono o.below.plain.size t Z (fun r P=>R _ _ P) (fun r P=>o.below.plain.block r (h.eW P)) (fun h=>h)⟩
end Go.Proofs.Ytkciiamllegclaa
namespace Go.Proofs.Ytkciiamllegclaa
set_option linter.all false
variable[ZX]
open Go.RowKit
variable[FM]
def lZ:AV→Bool
 | .int _ _|.bool _|.str _=>true
 | _=>false
def AV.oP:AV→Bool
 | .tup l=>l.all lZ
 | v=>lZ v
theorem yg{N N'}{w b}{ι ι'}{v}{x}(a:lZ v=true)(h:Rel N w ι v x):Rel N' b ι' v x:=by
 cases h<;>first|(cases a;done)|constructor
theorem yJ{N N'}{w g}{ι ι'}{v}{x}(a:v.oP=true)(h:Rel N w ι v x):Rel N' g ι' v x:=by
 cases h with
 | tup _ b vs c d=>exact .tup _ b vs c fun i x v f e=>yg (lp.1 a x (by grind)) (d i x v f e)
 | _=>first|(cases a;done)|constructor
def mJ(r:List (Nat×bw)):AV→Option AV
 | .ref i=>match look i r,Nat.ble (i+1) TG with|some ar,true=>some (.sl ar.l)|_,_=>none
 | v=>match v.bu [] with|true=>some v|false=>none
def hH(r:List (Nat×bw)):bl→Option bl
 | []=>some []
 | v::q=>match mJ r v,hH r q with|some x,some l=>some (x::l)|_,_=>none
theorem rn{r}:∀{l m},hH r l=some m→m.length=l.length
 | [],m,h=>by injection h with h;grind
 | v::q,m,h=>by
  unfold hH at h;split at h
  ·rename_i x l' b a;injection h with h;subst h;simp[rn a]
  grind
theorem qp{r}:∀{l m},hH r l=some m→∀(i:Nat) a,m[i]?=some a→∃b,l[i]?=some b∧mJ r b=some a
 | [],m,h,i,a,c=>by injection h with h;grind
 | v::q,m,h,i,a,c=>by
  unfold hH at h;split at h
  ·injection h with h;subst h
   cases i with
   | zero=>grind
   | succ i=>simp_all[qp]
  grind
def pX(r:List (Nat×bw)):AV→Option AV
 | .agg a=>match hH r a with|some l=>some (.agg l)|none=>none
 | _=>none
def ia(s:AS):AV→Option AV
 | .ref i=>match look i s.r,Nat.ble (i+1) TG with|some ar,true=>some (.sl ar.l)|_,_=>none
 | .sref i sz off m=>match look i s.r,Nat.ble (i+1) TG with|some ar,true=>(match Nat.beq ar.sz sz&&ZX.p with|true=>some (.sl (List.take m (List.drop off ar.l)))|false=>none)|_,_=>none
 | v=>match v.bu [] with|true=>some (dA v)|false=>pX s.r v
def eH(s:AS):bl→Option bl
 | []=>some []
 | v::r=>match ia s v,eH s r with|some x,some l=>some (x::l)|_,_=>none
def fp(s:AS):bl→Prop
 | []=>True
 | .sref i _ off m::r=>(match look i s.r with|some ar=>off+m≤ar.l.length|none=>True)∧fp s r
 | _::r=>fp s r
theorem pV{s}:∀{l},fp s l→∀(k i sz off m:Nat) ar,l[k]?=some (.sref i sz off m)→look i s.r=some ar→off+m≤ar.l.length
 | [],_,k,i,sz,off,m,ar,h,_=>by grind
 | v::r,h,0,i,sz,off,m,ar,b,a=>by
  grind[fp]
 | v::r,h,k+1,i,sz,off,m,ar,b,a=>by
  refine pV (l:=r) ?_ k i sz off m ar (by grind) a;cases v<;>first|exact h|exact h.2
theorem pJ{s}:∀{l m},eH s l=some m→m.length=l.length
 | [],m,h=>by injection h with h;grind
 | v::r,m,h=>by
  unfold eH at h;split at h
  ·rename_i x l' b a;injection h with h;subst h;simp[pJ a]
  grind
theorem rH{s:AS}:∀{l m:bl},eH s l=some m→∀(i:Nat) (a:AV),m[i]?=some a→∃b,l[i]?=some b∧ia s b=some a
 | [],m,h,i,a,c=>by injection h with h;subst h;simp at c
 | v::r,m,h,i,a,c=>by
  unfold eH at h;split at h
  ·injection h with h;subst h
   cases i with
   | zero=>grind
   | succ i=>simp_all[rH]
  grind
def jf(s:AS)(o:Oper):Option (FuncId×bl×bl) :=
 match o.op with
 | .call c=>match c.callee with
  | .value b=>match s.ev b,bJ s c.args.toList with
   | some (.fn f a),some l=>match eH s l with
    | some l'=>some (f,l'++a,l)
    | none=>none
   | _,_=>none
  | _=>none
 | _=>none
section
variable{d:Cx}{s:AS}
theorem tI{o:Oper}{g:FuncId}{F l:bl}{Q':AV→AS→Prop}(hc:aF d.P g F Q')(g0:bW d.P g=true)(p:jf s o=some (g,F,l))(t0:fp s l){a:Act}{w:World}{ι:Env}(J:ax d s a w ι){K:Act→World→Prop}{R:Exit→Act→World→Prop}
  (hK:∀x v s1 ι1 Z,Q' v s1→HS (fun _=>False) (fU w) Z ι1 s1→Rel (NN (fun _=>False) ι1) Z ι1 v x→K (a.put o.dst x) Z):({ o with guard:=none }:Oper).wpIn FF 0 d.P a w K R:=by
 unfold jf at p;split at p
 case h_2=>cases p
 rename_i c o0;split at p
 case h_2=>cases p
 rename_i fo L;split at p
 case h_2=>cases p
 rename_i f' z0 l0 hf k0;split at p
 case h_2=>cases p
 rename_i l' O;injection p with p;injection p with e1 p;injection p with e2 e3;subst e1;subst e2;subst e3
 obtain⟨q1,q2⟩:=lA J k0;refine cL ?_;obtain⟨ys,q0,C0,e0⟩:=jC (o:={ o with guard:=none }) J o0 L hf g0;rw[q0,kb];have Q:=pJ O;have E:l'.length=(c.args.map a.eval).size:=by rw[Q,q1];simp
 refine (hc (fun _=>False) w _ (fun b hb=>hb.elim) ⟨by simp at E⊢;omega,fun i v y r X=>?_⟩).mono ?_
 ·by_cases hi:i<l'.length
  ·rw[og hi]at r;rw[zO (by rw[←E];exact hi)]at X;obtain⟨b,hb,f⟩:=rH O i v r;have v0:(c.args.toList.map a.eval)[i]?=some y:=by rw[←v5,Af]at X;exact X
   have I:=q2 i b y hb v0;unfold ia at f;split at f
   ·rename_i id;split at f
    ·rename_i ar q C;injection f with f;subst f
     cases I with
     | ref _ _ A n c h=>exact(J.hs.gT (f6 C) q A n c h aG).mono (io _) (fun _ _ h=>h.elim) (fun _ _ _=>rfl) (fun _ _ h=>h)
    ·cases f
   ·rename_i id sz off m;split at f
    ·rename_i ar q C;split at f
     ·rename_i z;obtain⟨z,Y⟩:=AY.1 z;have z:=iN z;injection f with f;subst f
      subst z;have G:=pV t0 i id _ off m ar hb q;have u:(List.take m (List.drop off ar.l)).length=m:=by rw[zP,AP];omega
      cases I with
      | sref _ _ _ _ _ n c c' A B h hB =>
       by_cases hm:m=0
       ·subst hm;simp only[A3];exact .sl0 _ _ _ (.inl Y)
       rcases hB with hB|⟨g,rfl,rfl,m0,_⟩
       ·omega
       have s0:=(J.hs.gT (f6 C) q _ n c h aG).mono (N':=NN (fun _=>False) aG) (io _) (fun _ _ h=>by rcases h with h|⟨_,h⟩;exact h.elim;cases h) (fun _ _ _=>rfl) (fun _ _ h=>h);have H:Rel (fun _=>False) w aG (.sl ar.l) (.slice (some ⟨g,0,none⟩) n c):=s0.mono (io _) (fun _ _ h=>h.elim) (fun _ _ _=>rfl) (fun _ _ h=>h);generalize S:ar.l=D at H G u⊢;obtain⟨v1,E0,k1,k2,k3,_⟩:=J.hs.dL id ar q (by rw[h];rfl);rw[h]at k1;injection k1 with k1;subst k1
       have D0:n=D.length:=by
        obtain⟨r,h0⟩|⟨_,_,_,r,_⟩:=k2.2
        ·cases r
        ·injection r with _ r _;rw[←S];exact r
       cases H with
       | sl0=>simp at G;omega
       | sl _ _ b o c0 w0 x0 hz a0 hn p d0 p0 A0 =>
        have V:w0=ar.sz:=by
         have h4:=hz D[0] (zF (by omega));have h5:=k3 D[0] (by rw[S];exact zF (by omega));omega
        subst V;have e:List.drop off (List.take (off+m) D)=List.take m (List.drop off D):=by
         rw[List.drop_take];congr 1;omega
        have P:(List.drop off (List.take (off+m) D)).length=m:=by rw[e];exact u
        have N:∀j,(List.drop off (List.take (off+m) D))[j]?=if off+j<off+m then D[off+j]? else none:=fun j=>by
         rw[pl,sp]
        rw[←e];have U:Rel (NN (fun _=>False) aG) w aG (.sl (List.drop off (List.take (off+m) D))) (.slice (some ⟨g,0+off*ar.sz,none⟩) (List.drop off (List.take (off+m) D)).length c'):=by
         refine .sl _ _ _ _ _ ar.sz (fun j i=>x0 (off+j) i) (fun e t=>hz e (to (u7 t))) a0 (fun h=>by rcases h with h|⟨_,h⟩;exact h.elim;cases h) (fun j i=>p _ _) (fun j e t i x W=>?_) (fun j e t i x W=>?_) ⟨by rw[P];exact m0,.inl Y⟩
         ·rw[N]at t;split at t
          ·have:=d0 (off+j) e t i x W;rw[show 0+off*ar.sz+j*ar.sz+i=0+(off+j)*ar.sz+i by rw[sb];omega];exact this
          ·cases t
         ·rw[N]at t;split at t
          ·exact(p0 (off+j) e t i x W).mono (io _) (fun _ _ h=>by rcases h with h|⟨_,h⟩;exact h.elim;cases h) (fun _ _ _=>rfl) (fun _ _ h=>h)
          ·cases t
        rw[P,u3]at U;exact U.mono (io _) (fun _ _ h=>h.elim) (fun _ _ _=>rfl) (fun _ _ h=>h)
     ·cases f
    ·cases f
   ·split at f
    ·rename_i hp;injection f with f;subst f
     exact oN ((I.pure hp aG).mono (io _) (fun _ _ h=>h.elim) (fun _ _ _=>rfl) (fun _ _ h=>h))
    ·unfold pX at f;split at f
     case h_2=>cases f
     rename_i cs;split at f
     case h_2=>cases f
     rename_i B0 M;injection f with f;subst f
     cases I with
     | agg _ _ vs hl p r0 =>
      refine .agg _ _ _ ((rn M).trans hl) p (fun i' x v W r=>?_);obtain⟨b',b0,k⟩:=qp M i' x W;have T:=r0 i' b' v b0 r;unfold mJ at k;split at k
      ·split at k
       ·rename_i ar q C;injection k with k;subst k
        cases T with
        | ref _ _ A n c h=>exact(J.hs.gT (f6 C) q A n c h aG).mono (io _) (fun _ _ h=>h.elim) (fun _ _ _=>rfl) (fun _ _ h=>h)
       ·cases k
      ·split at k
       ·rename_i hp;injection k with k;subst k
        exact(T.pure hp aG).mono (io _) (fun _ _ h=>h.elim) (fun _ _ _=>rfl) (fun _ _ h=>h)
       ·cases k
  ·rw[kc (by omega)]at r;rw[Ay (by rw[←E];omega)]at X;rw[E]at r;exact(e0 _ v y r (by simpa using X)).mono (io _) (fun _ _ h=>h.elim) (fun _ _ _=>rfl) (fun _ _ h=>h)
 ·rintro e Z ⟨x,v,s1,ι1,rfl,hq,i0,I⟩
  exact hK x v s1 ι1 Z hq i0 I
end
theorem zk s t v:ia (s.tt t) v=ia s v:=by rfl
theorem qC s t:∀l:bl,eH (s.tt t) l=eH s l
 | []=>rfl
 | v::r=>by unfold eH;rw[zk,qC s t r]
theorem mz s t:∀l:bl,fp s l→fp (s.tt t) l
 | [],h=>h
 | v::r,h=>by
  cases v<;>first|exact mz s t r h|exact⟨h.1,mz s t r h.2⟩
end Go.Proofs.Ytkciiamllegclaa
namespace Go.Proofs.Ytkciiamllegclaa
set_option linter.all false
variable[ZX]
open Go.RowKit
variable[FM]
inductive Tag where
 | s (m:Nat)
 | v (lo n:Nat)
 | c (lo n:Nat)
 | a (lo n:Nat)
 | off (lo n:Nat)
 | o (lo n:Nat)
def Tag.bZ:Tag→Bool
 | .s _=>false
 | _=>true
def Tag.bC:Tag→Nat×Nat
 | .s m=>(m,0)
 | .v lo n|.c lo n|.a lo n|.off lo n|.o lo n=>(lo,n)
def Tag.rY:Tag→Bool
 | .a _ _|.o _ _=>true
 | _=>false
theorem Tag.zw{t:Tag}(h:t.rY=true):t.bZ=true:=by cases t<;>first|rfl|cases h
def bO(o:Oper):ck:=(o.after.toList.filter (Region.binds .any)).map (·.on)
theorem nr{o}{j}:j∈bO o↔∃e∈o.after,Region.binds .any e=true∧e.on=j:=by
 grind[bO]
def sK:Tag→Nat→Bool
 | .s m,k=>m == k
 | _,_=>false
def ee(ops:Array Oper)(a:List Tag)(m:Nat):Nat→Nat→Bool
 | 0,j=>match a[j]? with|some b=>sK b m|none=>false
 | k+1,j=>(match a[j]? with|some b=>sK b m|none=>false)||(match ops[j]? with|some c=>(bO c).any (ee ops a m k)|none=>false)
structure Stat(ops:Array Oper)(tags:List Tag)(K:Nat):Prop where
 len:tags.length≤ops.size
 lex:∀(i:Nat) (o:Oper) (tg:Tag),ops[i]?=some o→tags[i]?=some tg→∀j∈bO o,j<i
 dst:∀(i:Nat) (o:Oper) (tg:Tag),ops[i]?=some o→tags[i]?=some tg→tg.bZ=true→∃(d:Nat),o.dst=some d∧∀(j:Nat) (oj:Oper),ops[j]?=some oj→j≠i→oj.dst≠some d
 iu:∀(i:Nat) (o:Oper) (tg:Tag) (t:Nat),ops[i]?=some o→tags[i]?=some tg→t∈o.looksAt ops→∀(j:Nat) (oj:Oper) (tj:Tag),ops[j]?=some oj→tags[j]?=some tj→tj.bZ=true→oj.dst=some t→j∈bO o
 chain:∀(i:Nat) (o:Oper) (m:Nat),ops[i]?=some o→tags[i]?=some (Tag.s m)→1≤m∧m≤K∧(2≤m→∃j∈bO o,tags[j]?=some (Tag.s (m-1)))∧∀(j:Nat),tags[j]?=some (Tag.s m)→j=i
 last:K=0∨∃(i:Nat),tags[i]?=some (Tag.s K)
 lo:∀(i:Nat) (o:Oper) (tg:Tag),ops[i]?=some o→tags[i]?=some tg→tg.bZ=true→tg.bC.1=0∨∃k,∃j∈bO o,ee ops tags tg.bC.1 k j=true
 hi:∀(i:Nat) (tg:Tag),tags[i]?=some tg→tg.bZ=true→K<tg.bC.1+tg.bC.2∨∃(j:Nat) (oj:Oper),ops[j]?=some oj∧tags[j]?=some (Tag.s (tg.bC.1+tg.bC.2))∧i∈bO oj
def eV(ops:Array Oper)(a:List Tag)(K i:Nat)(o:Oper)(b:Tag):Bool :=
 (bO o).all (fun j=>decide (j<i)) &&
 (!b.bZ||(match o.dst with|some d=>(List.range ops.size).all fun j=>j == i||(match ops[j]? with|some e=>e.dst != some d|none=>true)|none=>false)) &&
 ((o.looksAt ops).all fun t=>(List.range ops.size).all fun j=>match ops[j]?,a[j]? with
  | some e,some c=>!c.bZ||e.dst != some t||(bO o).contains j
  | _,_=>true) &&
 (match b with
  | .s m=>decide (1≤m)&&decide (m≤K)&&(decide (m<2)||(bO o).any fun j=>match a[j]? with|some c=>sK c (m-1)|none=>false) &&
   (List.range ops.size).all fun j=>j == i||(match a[j]? with|some c=>!sK c m|none=>true)
  | _=>true) &&
 (!b.bZ||b.bC.1 == 0||((bO o).any (ee ops a b.bC.1 0)||(bO o).any (ee ops a b.bC.1 4))) &&
 (!b.bZ||decide (K<b.bC.1+b.bC.2)||(List.range ops.size).any fun j=>match ops[j]?,a[j]? with
  | some e,some c=>sK c (b.bC.1+b.bC.2)&&(bO e).contains i
  | _,_=>false)
def kx(ops:Array Oper)(a:List Tag)(K m:Nat):Bool :=
 (a.length == m&&Nat.ble m ops.size)&&(List.range m).all fun i=>match ops[i]?,a[i]? with|some o,some b=>eV ops a K i o b|_,_=>false
def kg(ops:Array Oper)(a:List Tag)(K:Nat):Bool:=kx ops a K ops.size
def gg(tags:List Tag)(K:Nat):Bool:=K == 0||tags.any (sK · K)
theorem jd{t}{m}(h:sK t m=true):t=.s m:=by
 cases t<;>simp[sK]at h
 grind
theorem mw{ops:Array Oper}{a:List Tag}{K m:Nat}(h:kx ops a K m=true)(s:gg a K=true):Stat ops a K∧a.length=m∧m≤ops.size:=by
 unfold kx at h;simp only[fz,z5,lp,v8]at h;obtain⟨⟨H,A⟩,h⟩:=h;have A:=f6 A;refine⟨?_,H,A⟩;have g:∀i o k,ops[i]?=some o→a[i]?=some k→eV ops a K i o k=true:=fun i o k p f=>by
  have u:i<m:=by rw[←H];exact(es.1 f).1
  have:=h i u;simpa only[p,f]using this
 have w:∀i k,a[i]?=some k→∃o,ops[i]?=some o:=fun i k f=>by
  have u:i<ops.size:=by have:=(es.1 f).1;omega
  exact⟨_,hM u⟩
 have I:∀j k,a[j]?=some k→j<ops.size:=fun j k f=>by have:=(es.1 f).1;omega
 refine⟨by omega,fun i o k p f j q=>?_,fun i o k p f v=>?_,fun i o k t p f D j E F l c C y=>?_,fun i o m p f=>?_,?_,fun i o k p f v=>?_,fun i k f v=>?_⟩
 ·have e:=g i o k p f;unfold eV at e;simp only[fz]at e;have:=e.1.1.1.1.1;have:=lp.1 this j q;simpa using this
 ·have e:=g i o k p f;unfold eV at e;simp only[fz]at e;have:=e.1.1.1.1.2;simp only[v,rs,Au]at this;cases y:o.dst with
  | none=>rw[y]at this;cases this
  | some d =>
   rw[y]at this;refine⟨d,rfl,fun j E l B=>?_⟩;have q:j<ops.size:=(ll.1 l).1;have b:=lp.1 this j (v8.2 q);simp only[l,tl,z5,bne_iff_ne]at b;rcases b with b|b
   ·exact(B b).elim
   ·exact b
 ·have e:=g i o k p f;unfold eV at e;simp only[fz]at e;have b:=e.1.1.1.2;have z:=lp.1 b t D;have r:=lp.1 z j (v8.2 (I j F c));simp only[l,c,C,y,rs,Au,tl]at r;rcases r with r|r
  ·simp at r
  ·simpa using r
 ·have e:=g i o _ p f;unfold eV at e;simp only[fz]at e;have b:=e.1.1.2;simp only[fz,zY,tl]at b;obtain⟨⟨⟨z,r⟩,x⟩,L⟩:=b;refine⟨z,r,fun J=>?_,fun j c=>?_⟩
  ·rcases x with x|x
   ·omega
   ·obtain⟨j,q,n⟩:=zJ.1 x;cases c:a[j]? with
    | none=>rw[c]at n;cases n
    | some F=>rw[c]at n;exact⟨j,q,by rw[c,jd n]⟩
  ·have G:=lp.1 L j (v8.2 (I j _ c));rw[c]at G;simpa[sK]using G
 ·unfold gg at s;simp only[tl,z5]at s;rcases s with s|s
  ·exact .inl s
  ·obtain⟨t,f,n⟩:=zJ.1 s;obtain⟨i,u,rfl⟩:=zI.1 f;exact .inr ⟨i,by rw[ez u,jd n]⟩
 ·have e:=g i o k p f;unfold eV at e;simp only[fz]at e;have b:=e.1.2;simp only[v,rs,Au,tl,z5]at b;rcases b with b|b|b
  ·exact .inl b
  ·obtain⟨j,q,n⟩:=zJ.1 b;exact .inr ⟨_,j,q,n⟩
  ·obtain⟨j,q,n⟩:=zJ.1 b;exact .inr ⟨_,j,q,n⟩
 ·obtain⟨o,p⟩:=w i k f;have e:=g i o k p f;unfold eV at e;simp only[fz]at e;have b:=e.2;simp only[v,rs,Au,tl,zY]at b;rcases b with b|b
  ·exact .inl b
  ·obtain⟨j,q,n⟩:=zJ.1 b;cases l:ops[j]? with
   | none=>simp[l]at n
   | some E =>
    cases c:a[j]? with
    | none=>simp[l,c]at n
    | some F =>
     simp only[l,c,fz]at n;exact .inr ⟨j,E,l,by rw[c,jd n.1],by simpa using n.2⟩
theorem vO{ops}{a}{K}(h:kg ops a K=true)(b:gg a K=true):Stat ops a K:=(mw h b).1
theorem ww{ops}{a}{K}(h:kg ops a K=true)(b:gg a K=true):a.length=ops.size:=(mw h b).2.1
def cM(a:Array Oper)(s:AS)(c:Bool):Option (Nat×Bool)→Prop
 | none=>c=true
 | some (j,b)=>match a[j]? with
  | some e=>match e.dst with
   | some d=>look d s.t=some (.bool (if c=true then b else !b))∨(c=false∧look d s.t=some (.tup []))
   | none=>False
  | none=>False
def nW(P:Program)(n:Nat)(s:AS)(o:Oper):Prop :=
 match o.op with
 | .call c=>match c.callee with
  | .value b=>∃f a l V d,s.ev b=some (.fn f a)∧bJ s c.args.toList=some l∧o.dst=some d∧look d s.t=some V∧d<n∧bS [] l=true∧V.bu []=true∧bW P f=true∧aF P f (l.map dA++a) (fun v _=>v=V)
  | _=>False
 | _=>False
def nA(P:Program)(n:Nat)(s:AS)(o:Oper):Prop :=
 ∃f a l V d,jf s o=some (f,a,l)∧fp s l∧o.dst=some d∧look d s.t=some V∧d<n∧V.oP=true∧bW P f=true∧aF P f a (fun v _=>v=V)
def m7(P:Program)(n:Nat)(ops:Array Oper)(s:AS)(o:Oper):Prop :=
 ∃d c a x b,o.dst=some d∧aH P n s o=some (s.put (some d) (.vv x))∧look d s.t=some (.ref a)∧c≠d∧look c s.t=some (.lk a x)∧look a s.r=some b∧∀(j:Nat) e,ops[j]?=some e→e.dst≠some c
def qO(P:Program)(n:Nat)(ops:Array Oper)(s:AS)(o:Oper):Prop:=nW P n s o∨(nA P n s o∨m7 P n ops s o)
def lG(P:Program)(n:Nat)(s:AS)(o:Oper)(d:Nat):Prop :=
 match o.op with
 | .call c=>match c.callee with
  | .value h=>∃f a l V id ar,id<TG∧s.ev h=some (.fn f a)∧bJ s c.args.toList=some l∧bS [] l=true∧bW P f=true∧aF P f (l.map dA++a) (fun v j=>v=V∧look id j.r=some ar) ∧
   (∀(N:Nat→Prop) w ι x,Rel N w ι V x→∃y,ι id=some y)∧look d s.t=some (V.cq id d)∧look d s.r=some ar∧look d s.o=none∧has s.u d=true
  | _=>False
 | .buildSlice T i b=>ZX.p=true∧i=0∧b = #[]∧∃e sz,P.underlying T=some (.slice e)∧aV P e=some sz∧look d s.t=some (.ref d)∧look d s.r=some ⟨e,sz,[]⟩∧look d s.o=none∧has s.u d=true
 | .makeSlice T x y=>ZX.p=true∧∃kd g m e sz bytes zc,s.ev x=some (.int kd m)∧s.ev y=some (.int g m)∧fr P T=some (e,sz,bytes)∧da P e=some zc∧kJ m bytes=true∧look d s.t=some (.ref d)∧look d s.r=some ⟨e,sz,List.replicate m.toNat (zc.map cy)⟩∧look d s.o=none∧has s.u d=true
 | _=>False
def n4(P:Program)(n:Nat)(ops:Array Oper)(s s':AS)(o:Oper):Prop :=
 n≤440000∧∃f g i,look f s.t=some (.lk g i)∧(∀(j:Nat) (h:Oper),ops[j]?=some h→h.dst≠some f) ∧
  ∀(c:Cx),c.P=P→c.n=n→∀(d:Nat→Bool) (a:Act) (w:World) (ι:Env),ax c (s.tt (aU d s.t)) a w ι→ι g=some i→(∀x t,x∈o.op.operands.toList→x=.tmp t→d t=true) →
   ∀(Kn:Act→World→Prop) (Q:Exit→Act→World→Prop),(∀e k ι' b,(∀id,id≠440009→some id≠o.dst→ι id=none→ι' id=none)→b.o=s'.o→b.r=s'.r→b.u=s'.u →
    (∀t v,d t=true∨some t=o.dst→look t s'.t=some v→look t b.t=some v)→ax c b e k ι'→Kn e k)→o.wpIn FF 0 P a w Kn Q
def uh(ops:Array Oper)(a:List Tag)(m t:Nat):Prop:=∃(i:Nat) (o:Oper) (b:Tag),ops[i]?=some o∧a[i]?=some b∧b.bZ=true∧o.dst=some t∧m≤b.bC.1
structure gu(P:Program)(n:Nat)(s0:AS)(ops:Array Oper)(tags:List Tag)(K:Nat)(σ:Nat→AS):Prop where
 s:∀(i:Nat) (o:Oper) (m:Nat),ops[i]?=some o→tags[i]?=some (Tag.s (m+1))→cM ops (σ m) true o.guard∧(aH P n (σ m) o=some (σ (m+1))∨∃s',n4 P n ops (σ m) s' o∧s'.o=(σ (m+1)).o∧s'.r=(σ (m+1)).r∧s'.u=(σ (m+1)).u∧∀t v,look t (σ (m+1)).t=some v→look t s'.t=some v∨uh ops tags (m+1) t)
 v:∀(i:Nat) (o:Oper) (lo:Nat) (k:Nat),ops[i]?=some o→tags[i]?=some (Tag.v lo k)→∀(j:Nat),lo≤j→j<lo+k→cM ops (σ j) true o.guard∧aH P n (σ j) o=some (σ j)
 c:∀(i:Nat) (o:Oper) (lo:Nat) (k:Nat),ops[i]?=some o→tags[i]?=some (Tag.c lo k)→∀(j:Nat),lo≤j→j<lo+k→cM ops (σ j) true o.guard∧qO P n ops (σ j) o
 a:∀(i:Nat) (o:Oper) (lo:Nat) (k:Nat),ops[i]?=some o→tags[i]?=some (Tag.a lo k)→∃(T:TypeId) (d:Nat) (cs:bl),o.guard=none∧o.op=.alloc T∧o.dst=some d∧d<min n 450000∧has s0.u d=false∧da P T=some cs ∧
  ∀(j:Nat),lo≤j→j<lo+k→look d (σ j).o=some cs∧look d (σ j).r=none∧look d (σ j).t=some (.ptr d 0)∧has (σ j).u d=true
 off:∀(i:Nat) (o:Oper) (lo:Nat) (k:Nat),ops[i]?=some o→tags[i]?=some (Tag.off lo k)→(∀(j:Nat),lo≤j→j<lo+k→cM ops (σ j) false o.guard∧o.guard≠none)∧∀(d:Nat) (j:Nat),o.dst=some d→j≤K→look d (σ j).t=none∨(look d (σ j).t=some (.tup [])∧d<n)
 o:∀(i:Nat) (o:Oper) (lo:Nat) (k:Nat),ops[i]?=some o→tags[i]?=some (Tag.o lo k)→∃(d:Nat),o.dst=some d∧d<n∧has s0.u d=false∧∀(j:Nat),lo≤j→j<lo+k→cM ops (σ j) true o.guard∧lG P n (σ j) o d
 i1:∀(id:Nat) (a:bw),look id (σ 0).r=some a→look id s0.r=some a∨has s0.u id=false
 i6:∀(id:Nat) (a:bw),look id (σ 0).r=some a→has (σ 0).u id=true∨look id s0.r=some a
 i2:∀(id:Nat) (cs:bl),look id (σ 0).o=some cs→look id s0.o=some cs∨has s0.u id=false
 i3:∀(id:Nat),s0.u.contains id=true→(σ 0).u.contains id=true
 i4:∀(id:Nat) (cs:bl),look id (σ 0).o=some cs→has (σ 0).u id=true∨look id s0.o=some cs
 i5:∀(t:Nat) (v:AV),look t (σ 0).t=some v→(∃(i:Nat) (o:Oper) (tg:Tag),ops[i]?=some o∧tags[i]?=some tg∧tg.bZ=true∧o.dst=some t)∨look t s0.t=some v
theorem HS.qt{M:Nat→Prop}{R:aC}{w:World}{ι:Env}{s:AS}(h:HS M R w ι s){n:Nat}(O:0<n∨ZX.p=true){d:Nat}(P:ι d=none)(J:has s.u d=true)(ho:look d s.o=none){e:TypeId}{sz:Nat}{l:List bl}{vs:b5}(C:look d s.r=some ⟨e,sz,l⟩)(B:l.length=n)(hm:n≤maxLen)(A:vs.length=n*sz)(hz:∀c∈l,c.length=sz)(h1:∀v∈vs,v.oneCell'=true)
  (hc:∀(j:Nat) (c:bl),l[j]?=some c→∀(i:Nat) (x:AV),c[i]?=some x→∃v,vs[j*sz+i]?=some v∧Rel (NN M ι) w aG x v) :
  HS M R (w.alloc (.cells vs.toArray e)) (ext ι d (.slice (some ⟨w.heap.size,0,none⟩) n n)) s:=by
 have D:R.w.heap.size≤w.heap.size:=h.below.size;have G:∀b,b<w.heap.size→¬ NN M ι b→(w.alloc (.cells vs.toArray e)).heap[b]?=w.heap[b]?:=fun b U _=>iO _ _ _ U;have I:∀b,b<w.heap.size→NN M (ext ι d (.slice (some ⟨w.heap.size,0,none⟩) n n)) b→NN M ι b:=fun b U u=>by
  rcases c8 u with u|u
  ·exact u
  ·injection u with u;simp only[]at u;omega
 have L:=cz P (.slice (some ⟨w.heap.size,0,none⟩) n n);refine⟨h.below.alloc D _,h.old,fun i y V=>?_,fun i g m=>?_,fun i F g m f=>?_,h.ko,h.kr,fun i W q t=>?_,fun i a q t=>?_,fun i y t=>⟨L i y (h.pin i y t).1,(h.pin i y t).2⟩⟩
 ·by_cases o:i=d
  ·subst o;exact J
  ·rw[aI _ _ o]at V;exact h.use i y V
 ·by_cases o:i=d
  ·subst o;rw[bA]at m;injection m with m;simp only[]at m;subst m;exact⟨.inl D,by simp⟩
  ·rw[aI _ _ o]at m;exact⟨(h.own i g m).1,by have:=(h.own i g m).2;simp;omega⟩
 ·by_cases o:i=d
  ·by_cases p:F=d
   ·omega
   ·subst o;rw[bA]at m;rw[aI _ _ p]at f;injection m with m;simp only[]at m
    have:=(h.own F g f).2;omega
  ·by_cases p:F=d
   ·subst p;rw[bA]at f;rw[aI _ _ o]at m;injection f with f;simp only[]at f
    have:=(h.own i g m).2;omega
   ·rw[aI _ _ o]at m;rw[aI _ _ p]at f;exact h.inj i F g m f
 ·have o:i≠d:=by rintro rfl;rw[ho]at q;cases q
  rw[aI _ _ o]at t;obtain⟨E,T',Q,S,Y,Z⟩:=h.objs i W q t;have N:=(h.own i E (by rw[S];rfl)).2;exact⟨E,T',Q,(aI _ _ o).trans S,(iO _ _ _ N).trans Y,Z.mono (by simp) I G L⟩
 ·by_cases o:i=d
  ·subst o;rw[C]at q;injection q with q;subst q
   refine⟨_,vs,bA _ _ _,⟨⟨by simp[A,B],.inr ⟨w.heap.size,n,vs.toArray,by simp[B],zW _,zH w _,by simp[B],hm,by simpa using A,by simp[B,← A]⟩⟩,.full B (by rw[B];exact O) (zH w _)⟩,hz,h1,fun j c K k x z=>?_⟩;obtain⟨v,hv,C⟩:=hc j c K k x z;exact⟨v,hv,.inl (C.mono (by simp) I G (fun _ _ h=>h))⟩
  ·rw[aI _ _ o]at t;obtain⟨v,xs,T,g2,g3,g4,g5⟩:=h.arrz i a q t;refine⟨v,xs,(aI _ _ o).trans T,du g2 (fun E f=>iO _ _ _ (h.own i E (by rw[T];exact f)).2),g3,g4,fun j X K k c z=>?_⟩;obtain⟨x,hx,C⟩:=g5 j X K k c z;exact⟨x,hx,C.mono (by simp) I G (fun r H=>L _ _ H) (fun r H=>iO _ _ _ (h.eW H)) (fun h=>h)⟩
theorem HS.uo{M:Nat→Prop}{N:aC}{w:World}{ι:Env}{s:AS}(h:HS M N w ι s){d:Nat}(Z:ι d=none)(H:has s.u d=true)(K:look d s.r=none){T:TypeId}(V:tyName d T){O:bl}{vs:b5}(X:look d s.o=some O)(W:Cells (NN M ι) w ι O vs):
  HS M N (w.alloc (.cells vs.toArray T)) (ext ι d (.pointer (some ⟨w.heap.size,0,none⟩))) s:=by
 have q:N.w.heap.size≤w.heap.size:=h.below.size;have B:∀b,b<w.heap.size→¬ NN M ι b→(w.alloc (.cells vs.toArray T)).heap[b]?=w.heap[b]?:=fun b P _=>iO _ _ _ P;have G:∀b,b<w.heap.size→NN M (ext ι d (.pointer (some ⟨w.heap.size,0,none⟩))) b→NN M ι b:=fun b P o=>by
  rcases c8 o with o|o
  ·exact o
  ·injection o with o;simp only[]at o;omega
 have z:=cz Z (.pointer (some ⟨w.heap.size,0,none⟩));refine⟨h.below.alloc q _,h.old,fun i y Q=>?_,fun i g l=>?_,fun i A g l f=>?_,h.ko,h.kr,fun i C m n=>?_,fun i a m n=>?_,fun i y n=>⟨z i y (h.pin i y n).1,(h.pin i y n).2⟩⟩
 ·by_cases e:i=d
  ·subst e;exact H
  ·rw[aI _ _ e]at Q;exact h.use i y Q
 ·by_cases e:i=d
  ·subst e;rw[bA]at l;injection l with l;simp only[]at l;subst l;exact⟨.inl q,by simp⟩
  ·rw[aI _ _ e]at l;exact⟨(h.own i g l).1,by have:=(h.own i g l).2;simp;omega⟩
 ·by_cases e:i=d
  ·by_cases t:A=d
   ·omega
   ·subst e;rw[bA]at l;rw[aI _ _ t]at f;injection l with l;simp only[]at l
    have:=(h.own A g f).2;omega
  ·by_cases t:A=d
   ·subst t;rw[bA]at f;rw[aI _ _ e]at l;injection f with f;simp only[]at f
    have:=(h.own i g l).2;omega
   ·rw[aI _ _ e]at l;rw[aI _ _ t]at f;exact h.inj i A g l f
 ·by_cases e:i=d
  ·subst e;rw[X]at m;injection m with m;subst m
   exact⟨w.heap.size,⟨T,V⟩,vs.toArray,bA _ _ _,zH w _,by simpa using W.mono (by simp) G B z⟩
  ·rw[aI _ _ e]at n;obtain⟨u,T',L,p,E,F⟩:=h.objs i C m n;have J:=(h.own i u (by rw[p];rfl)).2;exact⟨u,T',L,(aI _ _ e).trans p,(iO _ _ _ J).trans E,F.mono (by simp) G B z⟩
 ·by_cases e:i=d
  ·subst e;rw[K]at m;cases m
  ·rw[aI _ _ e]at n;obtain⟨v,xs,p,E,F,S,U⟩:=h.arrz i a m n;refine⟨v,xs,(aI _ _ e).trans p,du E (fun u f=>iO _ _ _ (h.own i u (by rw[p];exact f)).2),F,S,fun j R Y k c I=>?_⟩;obtain⟨x,hx,K⟩:=U j R Y k c I;exact⟨x,hx,K.mono (by simp) G B (fun r D=>z _ _ D) (fun r D=>iO _ _ _ (h.eW D)) (fun h=>h)⟩
theorem HS.ln{M:Nat→Prop}{g:aC}{w:World}{ι:Env}{s s':AS}(h:HS M g w ι s)(m:s.o=s'.o)(n:s.r=s'.r)(o:s.u=s'.u):HS M g w ι s':=by
 obtain⟨i,j,d,k,l,b,c,e,f,a⟩:=h;rw[m]at b e;rw[n]at c f;rw[o]at d b c a;exact⟨i,j,d,k,l,b,c,e,f,a⟩
structure bD(cx:Cx)(ops:Array Oper)(tags:List Tag)(K:Nat)(σ:Nat→AS)(listed:Array Bool)(a:Act)(w:World)(k:Nat)(ι:Env):Prop where
 sz:listed.size=ops.size
 cl:∀(i:Nat) (o:Oper),ops[i]?=some o→listed[i]?=some true→∀j∈bO o,listed[j]?=some true
 kK:k≤K
 wr:∀(i:Nat) (m:Nat),tags[i]?=some (Tag.s m)→(listed[i]?=some true↔m≤k)
 hs:HS cx.M cx.w0 w ι (σ k)
 al:∀(i:Nat) (o:Oper) (tg:Tag) (d:Nat),ops[i]?=some o→tags[i]?=some tg→tg.rY=true→o.dst=some d→listed[i]?≠some true→ι d=none
 dfr:a.defers=FM.ds
 n:a.tmps.size=cx.n
 tmp:∀(t:Nat) (v:AV),look t (σ k).t=some v→(∀(i:Nat) (o:Oper) (tg:Tag),ops[i]?=some o→tags[i]?=some tg→tg.bZ=true→o.dst=some t→listed[i]?=some true)→∃x,a.tmps[t]?=some x∧Rel (NN cx.M ι) w ι v x
section
variable{f:Cx}{ops:Array Oper}{c:List Tag}{K:Nat}{σ:Nat→AS}{listed:Array Bool}{a:Act}{w:World}{k:Nat}{ι:Env}{g:AS}
theorem b9{i j}(a:i<listed.size):(listed.setIfInBounds i true)[j]?=some true↔j=i∨listed[j]?=some true:=by
 grind
theorem bD.gL(A:Stat ops c K)(h:bD f ops c K σ listed a w k ι){i:Nat}{o:Oper}{d:Tag}(E:ops[i]?=some o)(y:c[i]?=some d)(x:d.bZ=true)(s:listed[i]?≠some true)(n:∀j∈bO o,listed[j]?=some true):
  d.bC.1≤k∧k<d.bC.1+d.bC.2:=by
 constructor
 ·rcases A.lo i o d E y x with C|⟨q,j,p,b⟩
  ·omega
  ·have t:∀(q j:Nat),ee ops c d.bC.1 q j=true→listed[j]?=some true→d.bC.1≤k:=by
    have m:∀j:Nat,(match c[j]? with|some B=>sK B d.bC.1|none=>false)=true→listed[j]?=some true→d.bC.1≤k:=fun j b l=>by
     cases g:c[j]? with
     | none=>rw[g]at b;cases b
     | some B=>rw[g]at b;exact(h.wr j _ (by rw[g,jd b])).1 l
    intro q
    induction q with
    | zero=>intro j b l;unfold ee at b;exact m j b l
    | succ q G =>
     intro j b l;unfold ee at b;rw[tl]at b;rcases b with b|b
     ·exact m j b l
     ·cases e:ops[j]? with
      | none=>rw[e]at b;cases b
      | some u =>
       rw[e]at b;obtain⟨z,F,b⟩:=zJ.1 b;exact G z b (h.cl j u e l z F)
   exact t q j b (n j p)
 ·rcases A.hi i d y x with C|⟨j,u,e,b,D⟩
  ·have:=h.kK;omega
  ·have v:¬ (d.bC.1+d.bC.2≤k):=fun r=>by
    have p:=(h.wr j _ b).2 r;exact s (h.cl j u e p i D)
   omega
theorem bD.low(A:Stat ops c K)(h:bD f ops c K σ listed a w k ι){i:Nat}{o:Oper}{e:Tag}(p:ops[i]?=some o)(u:c[i]?=some e)(t:e.bZ=true)(d:listed[i]?=some true):e.bC.1≤k:=by
 rcases A.lo i o e p u t with B|⟨q,j,s,b⟩
 ·omega
 ·have m:∀j:Nat,(match c[j]? with|some r=>sK r e.bC.1|none=>false)=true→listed[j]?=some true→e.bC.1≤k:=fun j b d=>by
   cases l:c[j]? with
   | none=>rw[l]at b;cases b
   | some r=>rw[l]at b;exact(h.wr j _ (by rw[l,jd b])).1 d
  have n:∀(q j:Nat),ee ops c e.bC.1 q j=true→listed[j]?=some true→e.bC.1≤k:=by
   intro q
   induction q with
   | zero=>intro j b d;unfold ee at b;exact m j b d
   | succ q x =>
    intro j b d;unfold ee at b;rw[tl]at b;rcases b with b|b
    ·exact m j b d
    ·cases g:ops[j]? with
     | none=>rw[g]at b;cases b
     | some y =>
      rw[g]at b;obtain⟨z,v,b⟩:=zJ.1 b;exact x z b (h.cl j y g d z v)
  exact n q j b (h.cl i o p d j s)
def oW(ops:Array Oper)(c:List Tag)(listed:Array Bool)(t:Nat):Prop:=∀(i:Nat) o a,ops[i]?=some o→c[i]?=some a→a.bZ=true→o.dst=some t→listed[i]?=some true
open Classical in
noncomputable def ch(ops:Array Oper)(c:List Tag)(listed:Array Bool):Nat→Bool:=fun t=>decide (oW ops c listed t)
theorem eg{t:Nat}:ch ops c listed t=true↔oW ops c listed t:=by
 unfold ch;exact @decide_eq_true_iff _ (Classical.propDecidable _)
theorem bD.vZ(h:bD f ops c K σ listed a w k ι):ax f ((σ k).tt (aU (ch ops c listed) (σ k).t)) a w ι :=
 ⟨h.hs.ln rfl rfl rfl,h.dfr,h.n,fun t v e=>by
  have b:look t (aU (ch ops c listed) (σ k).t)=some v:=e;rw[cA]at b;split at b
  ·rename_i d;exact h.tmp t v b (eg.1 d)
  ·cases b⟩
theorem bD.iu(s:Stat ops c K)(h:bD f ops c K σ listed a w k ι){i:Nat}{o:Oper}{l:Tag}(n:ops[i]?=some o)(e:c[i]?=some l)(b:∀j∈bO o,listed[j]?=some true){t:Nat}(q:t∈o.looksAt ops):ch ops c listed t=true :=
 eg.2 fun j r u d g p m=>b j (s.iu i o l t n e q j r u d g p m)
theorem xL{o:Oper}{x:Operand}{t:Nat}(a:x∈o.op.operands.toList)(e:x=.tmp t):t∈o.looksAt ops:=by
 subst e;unfold Oper.looksAt;exact List.mem_append_left _ (List.mem_filterMap.2 ⟨_,a,rfl⟩)
theorem bD.wanted(y:Stat ops c K)(h:bD f ops c K σ listed a w k ι){i:Nat}{o:Oper}{z:Tag}(v:ops[i]?=some o)(n:c[i]?=some z)(l:∀j∈bO o,listed[j]?=some true){t:Bool}(e:cM ops (σ k) t o.guard):Region.wanted o (yielded ops a.tmps)=t:=by
 unfold cM at e;split at e
 ·rename_i m;simp[Region.wanted,m,e]
 ·rename_i j b m;split at e
  ·rename_i A g;split at e
   ·rename_i d p;have u:d∈o.looksAt ops:=by
     unfold Oper.looksAt;refine List.mem_append_right _ ?_;simp[m,g,p]
    rcases e with e|⟨q,e⟩
    ·obtain⟨x,s,r⟩:=h.tmp d _ e (eg.1 (h.iu y v n l u));cases r;cases t<;>cases b<;>simp[Region.wanted,m,yielded,g,p,s]
    ·obtain⟨x,s,r⟩:=h.tmp d _ e (eg.1 (h.iu y v n l u));cases r;subst q;cases b<;>simp[Region.wanted,m,yielded,g,p,s]
   ·cases e
  ·cases e
theorem bD.step(st:Stat ops c K)(h:bD f ops c K σ listed a w k ι){i:Nat}{o:Oper}{R:Tag}(C:ops[i]?=some o)(V:c[i]?=some R)(U:R.bZ=true)(G:∀j∈bO o,listed[j]?=some true){d:Nat}(T:o.dst=some d)
  {D:World} {ι':Env} {x:Value} (P:HS f.M f.w0 D ι' (σ k)) (J:∀id,id≠d→ι id=none→ι' id=none) (hv:∀v,look d (σ k).t=some v→Rel (NN f.M ι') D ι' v x) (F:(look d (σ k).t).isSome=true→d<f.n)
  (Z:∀t v y,t≠d→look t (σ k).t=some v→Rel (NN f.M ι) w ι v y→Rel (NN f.M ι') D ι' v y):bD f ops c K σ (listed.setIfInBounds i true) (a.put (some d) x) D k ι':=by
 have u:i<listed.size:=by rw[h.sz];exact(ll.1 C).1
 obtain⟨E,n,r⟩:=st.dst i o R C V U;rw[T]at n;injection n with n;subst n
 refine⟨by simp[h.sz],fun j s b q W z=>?_,h.kK,fun j m l=>?_,P,fun j s S E b q L g A=>?_,h.dfr,by simp[Act.put,h.n],fun t v p M=>?_⟩
 ·rw[b9 u]at q⊢;rcases q with rfl|q
  ·rw[C]at b;injection b with b;subst b
   exact .inr (G W z)
  ·exact .inr (h.cl j s b q W z)
 ·rw[b9 u];constructor
  ·rintro (rfl|q)
   ·rw[V]at l;injection l with l;subst l;cases U
   ·exact(h.wr j m l).1 q
  ·intro I;exact .inr ((h.wr j m l).2 I)
 ·have H:j≠i:=by rintro rfl;exact A ((b9 u).2 (.inl rfl))
  have B:listed[j]?≠some true:=fun Y=>A ((b9 u).2 (.inr Y));refine J E ?_ (h.al j s S E b q L g B)
  rintro rfl
  exact r j s b H g
 ·by_cases e:t=d
  ·subst e;exact⟨x,by have:=F (by rw[p];rfl);simp[Act.put,h.n,this],hv v p⟩
  ·obtain⟨y,hy,O⟩:=h.tmp t v p (fun j s tj b Q N g=>by
    have:=M j s tj b Q N g;rw[b9 u]at this;rcases this with rfl|this
    ·rw[C]at b;injection b with b;subst b
     rw[T]at g;injection g with g;exact(e g.symm).elim
    ·exact this)
   exact⟨y,by simp only[Act.put];rw[v9 (fun X=>e X.symm)];exact hy,Z t v y e p O⟩
end
section
variable{u:Cx}{ops:Array Oper}{p:List Tag}{K:Nat}{σ:Nat→AS}{listed:Array Bool}{a:Act}{w:World}{k:Nat}{ι:Env}{B:AS}
theorem ip{i:Nat}(h:i∈Region.ready .any ops listed):listed[i]?≠some true∧∃o,ops[i]?=some o∧∀j∈bO o,listed[j]?=some true:=by
 unfold Region.ready at h;simp only[Aj,v8,fz,zG]at h;obtain⟨n,d,c⟩:=h;have g:=hM (xs:=ops) n;rw[g]at c;simp only[us,v7,zX,tl,zG]at c;refine⟨fun m=>?_,_,g,fun j p=>?_⟩
 ·rw[o8,m]at d;cases d
 ·obtain⟨e,l,k,rfl⟩:=nr.1 p;rcases c e l with a|a
  ·rw[k]at a;cases a
  ·rw[o8]at a;cases f:listed[e.on]? with
   | none=>rw[f]at a;cases a
   | some b=>rw[f]at a;simp only[v7]at a;rw[a]
theorem u9(q:Stat ops p K)(a:p.length=ops.size)(n:listed.size=ops.size)(h:Region.ready .any ops listed=[]):∀i,i<ops.size→listed[i]?=some true:=by
 intro i
 induction i using Nat.strongRecOn with
 | _ i o =>
  intro c;have k:=hM (xs:=ops) c;cases g:listed[i]? with
  | none=>rw[AD]at g;omega
  | some b =>
   cases b with
   | true=>rfl
   | false =>
    exfalso;have j:i∈Region.ready .any ops listed:=by
     unfold Region.ready;simp only[Aj,v8,fz,zG];refine⟨c,by rw[o8,g];rfl,?_⟩;rw[k];simp only[us,v7,zX,tl,zG];intro e l;by_cases f:Region.binds .any e=true
     ·right;have m:e.on∈bO ops[i]:=nr.2 ⟨e,l,f,rfl⟩;have d:=q.lex i _ _ k (ez (by rw[a];exact c)) e.on m;rw[o8,o e.on d (by omega)];rfl
     ·left;simpa using f
    rw[h]at j;cases j
def ec(listed:Array Bool):Nat:=(listed.toList.filter (fun b=>!b)).length
theorem qI{i:Nat}(h:listed[i]?=some false):ec (listed.setIfInBounds i true)+1=ec listed:=by
 have a:i<listed.size:=(ll.1 h).1;have e:listed.toList[i]'(by simpa using a)=false:=by have:=(ll.1 h).2;simpa using this
 unfold ec;rw[AC];have d:∀(l:List Bool) (i:Nat) (a:i<l.length),l[i]=false→((l.set i true).filter (fun b=>!b)).length+1=(l.filter (fun b=>!b)).length:=by
  intro l
  induction l with
  | nil=>intro i a _;simp at a
  | cons b r f =>
   intro i a c;cases i with
   | zero=>simp at c;subst c;simp
   | succ i =>
    simp only[List.set_cons_succ,List.filter_cons];have:=f i (by simpa using a) (by simpa using c);split<;>(try simp only[th])<;>omega
 exact d _ i (by simpa using a) e
theorem qV(h:ec listed=0)(i:Nat)(c:i<listed.size):listed[i]?=some true:=by
 unfold ec at h;have d:=iF h;rw[hM c];congr 1;cases a:listed[i] with
 | true=>rfl
 | false =>
  exfalso;have:listed[i]∈listed.toList.filter (fun b=>!b):=Aj.2 ⟨by simp,by simp[a]⟩;rw[d]at this;cases this
theorem bD.one{Q':Exit→Act→World→Prop}{Y:Act→World→Prop}(st:Stat ops p K)(dy:gu u.P u.n B ops p K σ)(h:bD u ops p K σ listed a w k ι){i:Nat}(w0:i<p.length)(hi:i∈Region.ready .any ops listed)
  (hK:∀a' w' k' ι',bD u ops p K σ (listed.setIfInBounds i true) a' w' k' ι'→Y a' w'):wpOpIn FF 0 u.P ops Q' i Y a w:=by
 obtain⟨m0,o,I,H⟩:=ip hi;have A1:i<ops.size:=(ll.1 I).1;have D:=ez (l:=p) (i:=i) w0;generalize p[i]'w0=tg at D;have M:=h.vZ;have U:∀x t,x∈o.op.operands.toList→x=.tmp t→ch ops p listed t=true:=fun x t hx e=>h.iu st I D H (xL hx e);unfold wpOpIn;simp only[I]
 -- what an operation of the list 'aop' does
 have A0:∀{s':AS},aH u.P u.n (σ k) o=some s'→∃ι',(∀id,some id≠o.dst→ι id=none→ι' id=none)∧∃s2,s2.o=s'.o∧s2.r=s'.r∧s2.u=s'.u∧(∀t v,ch ops p listed t=true∨some t=o.dst→look t s'.t=some v→look t s2.t=some v) ∧
   ∃a' w',ax u s2 a' w' ι'∧(∀R:Act→World→Prop,R a' w'→o.wpIn FF 0 u.P a w R Q'):=by
  intro s' D0;obtain⟨s2,f1,f2,f3,f4,f5⟩:=tc (ok:=ch ops p listed) D0 U;obtain⟨ι',g1,g2⟩:=nQ M f1;refine⟨ι',g1,s2,f2,f3,f4,f5,?_⟩;obtain⟨x,w',hr,F⟩|⟨w',hr,F⟩:=g2
  ·exact⟨_,_,F,fun R hR=>by refine cL ?_;rw[hr];exact hR⟩
  ·exact⟨_,_,F,fun R hR=>by refine cL ?_;rw[hr];exact hR⟩
 have l1:∀{m},tg=.s m→∀j m',p[j]?=some (.s m')→j≠i→m'≠m:=fun e j m' X j1 e'=>by
  subst e;subst e';exact j1 ((st.chain i o _ I D).2.2.2 j X)
 have G:i<listed.size:=by rw[h.sz];exact A1
 cases tg with
 | s m =>
  obtain⟨O1,C1,T0,c0⟩:=st.chain i o m I D;have D1:m=k+1:=by
   have h1:¬ m≤k:=fun B0=>m0 ((h.wr i m D).2 B0);have h2:m≤k+1:=by
    by_cases r1:2≤m
    ·obtain⟨j,X,hs⟩:=T0 r1;have:=(h.wr j _ hs).1 (H j X);omega
    ·omega
   omega
  subst D1;obtain⟨hg,W⟩:=dy.s i o k I D;have hw:Region.wanted o (yielded ops a.tmps)=true:=h.wanted st I D H hg;rw[l2 hw];have Z0:∀a' w' ι' s2,(∀id,(u.n≤440000→id≠440009)→some id≠o.dst→ι id=none→ι' id=none)→s2.o=(σ (k+1)).o→s2.r=(σ (k+1)).r→s2.u=(σ (k+1)).u →
    (∀t v,ch ops p listed t=true∨some t=o.dst→look t (σ (k+1)).t=some v→look t s2.t=some v)→ax u s2 a' w' ι'→bD u ops p K σ (listed.setIfInBounds i true) a' w' (k+1) ι':=fun a' w' ι' s2 g1 e1 e2 e3 e4 F=>by
   refine⟨by simp[h.sz],fun j oj r X j' l0=>?_,C1,fun j m' S=>?_,F.hs.ln e1 e2 e3,fun j oj F0 d' r X z0 E a0=>?_,F.dfr,F.n,fun t v hv I0=>?_⟩
   ·rw[b9 G]at X⊢;rcases X with rfl|X
    ·rw[I]at r;injection r with r;subst r;exact .inr (H j' l0)
    ·exact .inr (h.cl j oj r X j' l0)
   ·rw[b9 G];by_cases e:j=i
    ·subst e;rw[D]at S;injection S with S;injection S with S;subst S;simp
    ·have:=h.wr j m' S;have j1:=l1 rfl j m' S e;constructor
     ·rintro (h1|h1)
      ·exact(e h1).elim
      ·have:=this.1 h1;omega
     ·intro B0;exact .inr (this.2 (by omega))
   ·have H0:j≠i:=by rintro rfl;exact a0 ((b9 G).2 (.inl rfl))
    have p0:listed[j]?≠some true:=fun Q=>a0 ((b9 G).2 (.inr Q));refine g1 d' (fun h9 e=>?_) (fun e=>?_) (h.al j oj F0 d' r X z0 E p0)
    ·cases F0<;>first|(cases z0;done)|skip
     ·obtain⟨_,d0,_,_,_,c3,c4,_⟩:=dy.a j oj _ _ r X;rw[E]at c3;injection c3 with c3;have e9:d'=440009:=e;omega
     ·obtain⟨d0,c3,c4,_⟩:=dy.o j oj _ _ r X;rw[E]at c3;injection c3 with c3;have e9:d'=440009:=e;omega
    obtain⟨d2,N0,K1⟩:=st.dst j oj _ r X (Tag.zw z0);rw[E]at N0;injection N0 with N0;subst N0
    exact K1 i o I (fun e'=>H0 e'.symm) e.symm
   ·refine F.tmp t v (e4 t v (.inl (eg.2 fun j oj tj r e0 C0 E=>?_)) hv);have:=I0 j oj tj r e0 C0 E;rw[b9 G]at this;rcases this with rfl|this
    ·rw[D]at e0;injection e0 with e0;subst e0;cases C0
    ·exact this
  rcases W with W|⟨s',⟨q0,dl,iv,v0,q1,q2,q3⟩,b1,b2,b3,b4⟩
  ·obtain⟨ι',g1,s2,e1,e2,e3,e4,a',w',F,K0⟩:=A0 W;exact(K0 _ (hK a' w' (k+1) ι' (Z0 a' w' ι' s2 (fun id _=>g1 id) e1 e2 e3 e4 F)))
  ·have J0:ch ops p listed dl=true:=eg.2 fun j oj tj r _ _ E=>(q2 j oj r E).elim;obtain⟨y,_,hr⟩:=M.tmp dl (.lk iv v0) (by show look dl (aU _ _)=_;rw[cA,l2 J0];exact q1);cases hr with
   | lk _ _ _ _ hv _ =>
    exact(q3 u rfl rfl _ a w ι M hv U _ Q' (fun a' w' ι' s2 g1 e1 e2 e3 e4 F=>hK a' w' (k+1) ι' (Z0 a' w' ι' s2 (fun id h9=>g1 id (h9 q0)) (e1.trans b1) (e2.trans b2) (e3.trans b3) (fun t v ht C=>by
     rcases b4 t v C with C|⟨i0,o0,n1,c1,c2,c3,c4,c5⟩
     ·exact e4 t v ht C
     ·rcases ht with ht|ht
      ·have:=h.low st c1 c2 c3 (eg.1 ht i0 o0 n1 c1 c2 c3 c4);omega
      ·obtain⟨d0,M0,J1⟩:=st.dst i0 o0 n1 c1 c2 c3;rw[c4]at M0;injection M0 with M0;subst M0
       by_cases e:i=i0
       ·subst e;rw[D]at c2;injection c2 with c2;subst c2;cases c3
       ·exact(J1 i o I e ht.symm).elim) F)))
 | v lo n =>
  obtain⟨s1,g0⟩:=h.gL st I D rfl m0 H;obtain⟨hg,W⟩:=dy.v i o lo n I D k s1 g0;have hw:=h.wanted st I D H hg;rw[l2 hw];obtain⟨d,hd,c0⟩:=st.dst i o _ I D rfl;obtain⟨ι',g1,s2,e1,e2,e3,e4,a',w',F,K0⟩:=A0 W;refine (K0 _ (hK a' w' k ι' ?_));refine⟨by simp[h.sz],fun j oj r X j' l0=>?_,h.kK,fun j m' S=>?_,F.hs.ln e1 e2 e3,fun j oj F0 d' r X z0 E a0=>?_,F.dfr,F.n,fun t v hv I0=>?_⟩
  ·rw[b9 G]at X⊢;rcases X with rfl|X
   ·rw[I]at r;injection r with r;subst r;exact .inr (H j' l0)
   ·exact .inr (h.cl j oj r X j' l0)
  ·rw[b9 G];have e:j≠i:=by rintro rfl;rw[D]at S;cases S
   have:=h.wr j m' S;constructor
   ·rintro (h1|h1)
    ·exact(e h1).elim
    ·exact this.1 h1
   ·intro B0;exact .inr (this.2 B0)
  ·have H0:j≠i:=by rintro rfl;exact a0 ((b9 G).2 (.inl rfl))
   have p0:listed[j]?≠some true:=fun Q=>a0 ((b9 G).2 (.inr Q));refine g1 d' (fun e=>?_) (h.al j oj F0 d' r X z0 E p0);rw[hd]at e;injection e with e;subst e
   exact c0 j oj r H0 E
  ·refine F.tmp t v (e4 t v ?_ hv);by_cases e:t=d
   ·right;rw[hd,e]
   ·left;refine eg.2 fun j oj tj r e0 C0 E=>?_;have:=I0 j oj tj r e0 C0 E;rw[b9 G]at this;rcases this with rfl|this
    ·rw[I]at r;injection r with r;subst r
     rw[hd]at E;injection E with E;exact(e E.symm).elim
    ·exact this
 | c lo n =>
  obtain⟨s1,g0⟩:=h.gL st I D rfl m0 H;obtain⟨hg,W⟩:=dy.c i o lo n I D k s1 g0;have hw:=h.wanted st I D H hg;rw[l2 hw];rcases W with W|W|W
  case inr.inr =>
   obtain⟨d,dl,X0,x,b,hd,W,x0,v1,B1,F1,E1⟩:=W;obtain⟨d',L0,c0⟩:=st.dst i o _ I D rfl;rw[hd]at L0;injection L0 with L0;subst L0
   obtain⟨ι',g1,s2,e1,e2,e3,e4,a',w',F,K0⟩:=A0 W;have J0:ch ops p listed dl=true:=eg.2 fun j oj tj r _ _ E=>(E1 j oj r E).elim;have hx:ι' X0=some x:=by
    obtain⟨y,_,hr⟩:=F.tmp dl (.lk X0 x) (e4 dl _ (.inl J0) (by simp only[AS.put,bz];rw[o9 v1];exact B1));cases hr with
    | lk _ _ _ _ h _=>exact h
   refine (K0 _ (hK a' w' k ι' ?_));refine⟨by simp[h.sz],fun j oj r X j' l0=>?_,h.kK,fun j m' S=>?_,F.hs.ln e1 e2 e3,fun j oj F0 d' r X z0 E a0=>?_,F.dfr,F.n,fun t v hv I0=>?_⟩
   ·rw[b9 G]at X⊢;rcases X with rfl|X
    ·rw[I]at r;injection r with r;subst r;exact .inr (H j' l0)
    ·exact .inr (h.cl j oj r X j' l0)
   ·rw[b9 G];have e:j≠i:=by rintro rfl;rw[D]at S;cases S
    have:=h.wr j m' S;constructor
    ·rintro (h1|h1)
     ·exact(e h1).elim
     ·exact this.1 h1
    ·intro B0;exact .inr (this.2 B0)
   ·have H0:j≠i:=by rintro rfl;exact a0 ((b9 G).2 (.inl rfl))
    have p0:listed[j]?≠some true:=fun Q=>a0 ((b9 G).2 (.inr Q));refine g1 d' (fun e=>?_) (h.al j oj F0 d' r X z0 E p0);rw[hd]at e;injection e with e;subst e
    exact c0 j oj r H0 E
   ·by_cases e:t=d
    ·subst e;rw[x0]at hv;injection hv with hv;subst hv
     obtain⟨y,hy,hr⟩:=F.tmp t (.vv x) (e4 t _ (.inr hd.symm) (by simp[AS.put,bz]));refine⟨y,hy,?_⟩;cases hr;obtain⟨v,xs,q1,q2,_⟩:=F.hs.dL X0 b (by rw[e2];exact F1) (by rw[hx];rfl);rw[hx]at q1;injection q1 with q1;subst q1
     obtain⟨A',m,c,rfl⟩:∃A m c,x=.slice A m c:=by
      rcases q2.2 with⟨hv,_⟩|⟨_,_,_,hv,_⟩<;>exact⟨_,_,_,hv⟩
     exact .ref _ _ _ _ _ hx
    ·refine F.tmp t v (e4 t v (.inl ?_) (by simp only[AS.put,bz];rw[o9 e];exact hv));refine eg.2 fun j oj tj r e0 C0 E=>?_;have:=I0 j oj tj r e0 C0 E;rw[b9 G]at this;rcases this with rfl|this
     ·rw[I]at r;injection r with r;subst r
      rw[hd]at E;injection E with E;exact(e E.symm).elim
     ·exact this
  case inr.inl =>
   obtain⟨f,Y0,l,V,d,h1,G1,a3,a4,a5,a7,a8,a9⟩:=W;have p1:jf ((σ k).tt (aU (ch ops p listed) (σ k).t)) o=some (f,Y0,l):=by
    unfold jf at h1⊢;split at h1
    case h_2=>cases h1
    rename_i cl L;split at h1
    case h_2=>cases h1
    rename_i fo O;have e1:((σ k).tt (aU (ch ops p listed) (σ k).t)).ev fo=(σ k).ev fo:=by
     cases fo with
     | tmp t =>
      show look t (aU _ _)=look t _;rw[cA,l2 (U (.tmp t) t (by simp[L,Op.operands,Call.operands,O]) rfl)]
     | const v=>rfl
     | func g=>rfl
     | global g=>rfl
    have e2:bJ ((σ k).tt (aU (ch ops p listed) (σ k).t)) cl.args.toList=bJ (σ k) cl.args.toList:=ij (fun x hx=>by
     cases x with
     | tmp t =>
      show look t (aU _ _)=look t _;rw[cA,l2 (U (.tmp t) t (by simp[L,Op.operands,Call.operands,O];exact .inr (rv.1 hx)) rfl)]
     | const v=>rfl
     | func g=>rfl
     | global g=>rfl)
    simp only[L,O,e1,e2,qC];exact h1
   have t1:=tI (R:=Q') a9 a8 p1 (mz _ _ l G1) M (K:=Y) (fun x v s1 ι1 w' hv b0 hr=>by
    subst hv;rw[a3];refine hK _ _ k ι (h.step st I D rfl H a3 (h.hs.en b0.below.plain) (fun _ _ h=>h) (fun v' C=>?_) (fun _=>a5) (fun t v' y _ _ Z=>Z.mono b0.below.plain.size (fun b _ hb=>hb) (fun b x0 _=>b0.below.plain.block b x0) (fun _ _ h=>h)));rw[a4]at C;injection C with C;subst C;exact yJ a7 hr)
   exact t1
  case inl =>
  unfold nW at W;split at W
  ·rename_i cl L;split at W
   ·rename_i fo O;obtain⟨f,G0,l,V,d,a1,a2,a3,a4,a5,a6,a7,a8,a9⟩:=W;have R0:((σ k).tt (aU (ch ops p listed) (σ k).t)).ev fo=some (.fn f G0):=by
     cases fo with
     | tmp t =>
      show look t (aU _ _)=_;rw[cA,l2 (U (.tmp t) t (by simp[L,Op.operands,Call.operands,O]) rfl)];exact a1
     | const v=>exact a1
     | func g=>exact a1
     | global g=>exact a1
    have hl:bJ ((σ k).tt (aU (ch ops p listed) (σ k).t)) cl.args.toList=some l:=by
     rw[ij];exact a2;intro x hx;cases x with
     | tmp t =>
      show look t (aU _ _)=look t _;rw[cA,l2 (U (.tmp t) t (by simp[L,Op.operands,Call.operands,O];exact .inr (rv.1 hx)) rfl)]
     | const v=>rfl
     | func g=>rfl
     | global g=>rfl
    refine cL ?_;obtain⟨ys,U0,P0,Q0⟩:=jC M L O R0 a8;rw[U0,kb];refine (a9 (NN u.M ι) w _ (fun b hb=>hZ M.hs hb) (kw M hl a6 P0 Q0)).mono ?_
    rintro e w' ⟨x,v,s3,ι1,rfl,rfl,b0,hr⟩
    have h3:Rel (NN u.M ι) w' ι v x:=(hr.pure a7 ι).mono (io _) (fun b _ hb=>.inl hb) (fun _ _ _=>rfl) (fun _ _ h=>h);rw[a3];refine hK _ _ k ι (h.step st I D rfl H a3 (h.hs.en b0.below.plain) (fun _ _ h=>h) (fun v' C=>?_) (fun _=>a5) (fun t v' y _ _ Z=>Z.mono b0.below.plain.size (fun b _ hb=>hb) (fun b x0 _=>b0.below.plain.block b x0) (fun _ _ h=>h)));rw[a4]at C;injection C with C;subst C;exact h3
   ·exact W.elim
  ·exact W.elim
 | a lo n =>
  obtain⟨s1,g0⟩:=h.gL st I D rfl m0 H;obtain⟨T,d,cs,d1,L,hd,x1,z1,hz,k0⟩:=dy.a i o lo n I D;obtain⟨b1,b2,b3,b4⟩:=k0 k s1 g0;have hw:Region.wanted o (yielded ops a.tmps)=true:=by simp[Region.wanted,d1]
  rw[l2 hw];have J:=h.al i o _ d I D rfl hd m0;unfold da at hz;cases w0:u.P.info? T with
  | none=>simp[w0]at hz
  | some it =>
   cases W0:it.zero with
   | none=>simp[w0,W0]at hz
   | some zv =>
    simp only[w0,hQ,W0]at hz;have hc:=dh (NN u.M ι) w ι hz;have s0:(execOp a.eval o).run u.P w=.ok (.value (.pointer (some ⟨w.heap.size,0,none⟩))) (w.alloc (.cells zv.cells T)):=by
     unfold execOp;simp[L,Instr.alloc,zeroValue,typeInfo,w0,W0,newVar,newRow]
    refine cL ?_;rw[s0];show Y _ _;rw[hd];have D0:=h.hs.uo (d:=d) J b4 b2 (T:=T) (fun q=>by omega) b1 hc;simp only[Ad]at D0;refine hK _ _ k _ (h.step st I D rfl H hd D0 (fun id t0 hn=>(aI _ _ t0).trans hn) (fun v' C=>?_) (fun _=>zS x1 (Nat.min_le_left _ _)) (fun t v' y _ _ Z=>Z.mono (by simp) (fun b hb Q=>?_) (fun b hb _=>iO _ _ _ hb) (cz J _)))
    ·rw[b3]at C;injection C with C;subst C;exact .ptr _ _ _ _ (bA _ _ _)
    ·rcases c8 Q with Q|Q
     ·exact Q
     ·injection Q with Q;simp only[]at Q;omega
 | o lo n =>
  obtain⟨s1,g0⟩:=h.gL st I D rfl m0 H;obtain⟨d,a3,a5,z1,k0⟩:=dy.o i o lo n I D;obtain⟨hg,W⟩:=k0 k s1 g0;have hw:=h.wanted st I D H hg;rw[l2 hw];have J:=h.al i o _ d I D rfl a3 m0;unfold lG at W;split at W
  ·rename_i cl L;split at W
   ·rename_i fo O;obtain⟨f,G0,l,V,id,ar,i1,a1,a2,a6,a8,a9,k1,hT,hR,hO,hU⟩:=W;have R0:((σ k).tt (aU (ch ops p listed) (σ k).t)).ev fo=some (.fn f G0):=by
     cases fo with
     | tmp t =>
      show look t (aU _ _)=_;rw[cA,l2 (U (.tmp t) t (by simp[L,Op.operands,Call.operands,O]) rfl)];exact a1
     | const v=>exact a1
     | func g=>exact a1
     | global g=>exact a1
    have hl:bJ ((σ k).tt (aU (ch ops p listed) (σ k).t)) cl.args.toList=some l:=by
     rw[ij];exact a2;intro x hx;cases x with
     | tmp t =>
      show look t (aU _ _)=look t _;rw[cA,l2 (U (.tmp t) t (by simp[L,Op.operands,Call.operands,O];exact .inr (rv.1 hx)) rfl)]
     | const v=>rfl
     | func g=>rfl
     | global g=>rfl
    refine cL ?_;obtain⟨ys,U0,P0,Q0⟩:=jC M L O R0 a8;rw[U0,kb];refine (a9 (NN u.M ι) w _ (fun b hb=>hZ M.hs hb) (kw M hl a6 P0 Q0)).mono ?_
    rintro e w' ⟨x,v,s3,ι1,rfl,⟨rfl,S0⟩,b0,hr⟩
    obtain⟨y,hy⟩:=k1 _ _ _ _ hr;obtain⟨E0,u1⟩:=h.hs.wI b0 i1 hy S0 J hU hO hR;have h3:Rel (NN u.M (ext ι d y)) w' (ext ι d y) (v.cq id d) x:=hr.cq u1 (fun z hz=>by rw[hy]at hz;injection hz with hz;subst hz;exact bA _ _ _);rw[a3];refine hK _ _ k _ (h.step st I D rfl H a3 E0 (fun P1 t0 hn=>(aI _ _ t0).trans hn) (fun v' C=>?_) (fun _=>a5) (fun t v' y' _ _ Z=>Z.mono b0.below.plain.size (fun b hb Q=>?_) (fun b x0 _=>b0.below.plain.block b x0) (cz J _)))
    ·rw[hT]at C;injection C with C;subst C;exact h3
    ·rcases c8 Q with Q|Q
     ·exact Q
     ·rcases (b0.own id b (by rw[hy];exact Q)).1 with h9|h9;exact absurd hb (Nat.not_lt.2 h9);exact h9.elim
   ·exact W.elim
  ·rename_i T n' N1 L;obtain⟨V0,rfl,rfl,e,sz,I1,hz,hT,hR,hO,hU⟩:=W;have D0:(sizeOf e).run u.P w=.ok sz w:=by
    cases hi:u.P.info? e with
    | none=>simp[aV,hi]at hz
    | some it =>
     have : it.size=sz:=by simpa[aV, hi]using hz
     simp[sizeOf,typeInfo,hi,this]
   have s0:(execOp a.eval o).run u.P w=.ok (.value (.slice (some ⟨w.heap.size,0,none⟩) 0 0)) (w.alloc (.cells #[] e)):=by
    unfold execOp;have r0:Array.range 0 = #[]:=rfl;simp[L,Instr.buildSlice,hF I1,D0,Instr.fill,newRow,r0]
   refine cL ?_;rw[s0];show Y _ _;rw[a3];have E0:=h.hs.qt (vs:=[]) (.inr V0) J hU hO hR rfl (zW _) (by simp) (fun c hc=>(by cases hc)) (fun v hv=>(by cases hv)) (fun j c X=>by simp at X);simp only[ti]at E0;refine hK _ _ k _ (h.step st I D rfl H a3 E0 (fun id t0 hn=>(aI _ _ t0).trans hn) (fun v' C=>?_) (fun _=>a5) (fun t v' y _ _ Z=>Z.mono (by simp) (fun b hb Q=>?_) (fun b hb _=>iO _ _ _ hb) (cz J _)))
   ·rw[hT]at C;injection C with C;subst C;exact .ref _ _ _ _ _ (bA _ _ _)
   ·rcases c8 Q with Q|Q
    ·exact Q
    ·injection Q with Q;simp only[]at Q;omega
  ·rename_i T x y L;obtain⟨V0,kd,m1,m,e,sz,bytes,zc,hx,hy,H1,hz,hb,hT,hR,hO,hU⟩:=W;have L1:((σ k).tt (aU (ch ops p listed) (σ k).t)).ev x=some (.int kd m):=by
    cases x with
    | tmp t=>show look t (aU _ _)=_;rw[cA,l2 (U (.tmp t) t (by simp[L,Op.operands]) rfl)];exact hx
    | const v=>exact hx
    | func g=>exact hx
    | global g=>exact hx
   have M1:((σ k).tt (aU (ch ops p listed) (σ k).t)).ev y=some (.int m1 m):=by
    cases y with
    | tmp t=>show look t (aU _ _)=_;rw[cA,l2 (U (.tmp t) t (by simp[L,Op.operands]) rfl)];exact hy
    | const v=>exact hy
    | func g=>exact hy
    | global g=>exact hy
   obtain⟨vs,s0,q1,q2,q3,q4,q5⟩:=pK (P:=u.P) (N:=NN u.M ι) w H1 hz hb kd m1;refine cL ?_;unfold execOp;simp only[L,mm,eu M L1,eu M M1,s0,n2,v6];show Y _ _;rw[a3];have E0:=h.hs.qt (vs:=vs) (.inr V0) J hU hO hR (by simp) q1 q2 q3 q4 q5;refine hK _ _ k _ (h.step st I D rfl H a3 E0 (fun id t0 hn=>(aI _ _ t0).trans hn) (fun v' C=>?_) (fun _=>a5) (fun t v' y _ _ Z=>Z.mono (by simp) (fun b hb Q=>?_) (fun b hb _=>iO _ _ _ hb) (cz J _)))
   ·rw[hT]at C;injection C with C;subst C;exact .ref _ _ _ _ _ (bA _ _ _)
   ·rcases c8 Q with Q|Q
    ·exact Q
    ·injection Q with Q;simp only[]at Q;omega
  ·exact W.elim
 | off lo n =>
  obtain⟨s1,g0⟩:=h.gL st I D rfl m0 H;obtain⟨k0,O0⟩:=dy.off i o lo n I D;obtain⟨hg,d1⟩:=k0 k s1 g0;have hw:=h.wanted st I D H hg;rw[o9 (by rw[hw];simp)];obtain⟨d,hd,c0⟩:=st.dst i o _ I D rfl;rw[hd];refine⟨fun _ _=>trivial,hK _ _ k ι (h.step st I D rfl H hd h.hs (fun _ _ h=>h) (fun v' C=>?_) (fun hs=>?_) (fun t v' y _ _ Z=>Z))⟩
  ·rcases O0 d k hd h.kK with h0|⟨h0,_⟩
   ·rw[h0]at C;cases C
   ·rw[h0]at C;injection C with C;subst C
    exact .tup _ _ [] rfl (fun i x v hx _=>by simp at hx)
  ·rcases O0 d k hd h.kK with h0|⟨_,h0⟩
   ·rw[h0]at hs;cases hs
   ·exact h0
theorem bD.any{l:Exit→Act→World→Prop}(x:Stat ops p K)(d:p.length=ops.size)(A:gu u.P u.n B ops p K σ)(C:∀a w ι,ax u (σ K) a w ι→l .normal a w):
  ∀(b:Nat) (listed:Array Bool) (a:Act) (w:World) (k:Nat) (ι:Env),ec listed=b→bD u ops p K σ listed a w k ι→wpAnyIn FF 0 u.P .any ops l b listed a w:=by
 have g:∀(listed:Array Bool) (a:Act) (w:World) (k:Nat) (ι:Env),bD u ops p K σ listed a w k ι→(∀i,i<ops.size→listed[i]?=some true)→l .normal a w:=by
  intro listed a w k ι h c;have F:k=K:=by
   have:=h.kK;rcases x.last with M|⟨i,f⟩
   ·omega
   ·have m:i<ops.size:=by rw[←d];exact(es.1 f).1
    have:=(h.wr i K f).1 (c i m);omega
  subst F;exact C a w ι ⟨h.hs,h.dfr,h.n,fun t v H=>h.tmp t v H (fun i o O j _ _ _=>c i (ll.1 j).1)⟩
 intro b
 induction b with
 | zero =>
  intro listed a w k ι y h;have c:∀i,i<ops.size→listed[i]?=some true:=fun i f=>qV y i (by rw[h.sz];exact f);refine⟨?_,g listed a w k ι h c⟩;cases s:Region.ready .any ops listed with
  | nil=>rfl
  | cons i r =>
   exfalso;obtain⟨e,o,j,_⟩:=ip (ops:=ops) (listed:=listed) (i:=i) (by rw[s];simp);exact e (c i (ll.1 j).1)
 | succ b I =>
  intro listed a w k ι y h;refine⟨fun s=>g listed a w k ι h (u9 x d h.sz s),fun i f=>?_⟩;obtain⟨_,N,q,_⟩:=ip f;refine h.one x A (by rw[d];exact(ll.1 q).1) f (fun z L J ι' G=>I _ z L J ι' ?_ G);obtain⟨e,o,j,_⟩:=ip f;have n:i<listed.size:=by rw[h.sz];exact(ll.1 j).1
  have E:listed[i]?=some false:=by
   rw[hM n]at e⊢;cases D:listed[i] with
   | true=>rw[D]at e;exact(e rfl).elim
   | false=>rfl
  have:=qI E;omega
theorem bD.start(I:Stat ops p K)(f:gu u.P u.n B ops p K σ){a:Act}{w:World}{ι:Env}(z:ax u B a w ι):bD u ops p K σ (Array.replicate ops.size false) a { w with drawn:=w.drawn+1 } 0 ι:=by
 have D:Below w.heap.size w { w with drawn:=w.drawn+1 }:=⟨rfl,rfl,rfl,io _,fun _ _=>rfl⟩;have r:=z.en D;refine⟨by simp,fun i o x l=>?_,zW _,fun i m s=>?_,?_,fun i o H d x C F A _=>?_,r.dfr,r.n,fun t v N G=>?_⟩
 ·rw[zZ]at l;split at l<;>cases l
 ·constructor
  ·intro l;rw[zZ]at l;split at l<;>cases l
  ·intro L;have E:i<ops.size:=by have:=(es.1 s).1;have:=I.len;omega
   have:=(I.chain i _ m (hM E) s).1;omega
 ·have c:=r.hs;have n:∀id,has B.u id=true→has (σ 0).u id=true:=fun id h=>(vB h).elim (fun h=>d7 (f.i3 id h)) (fun h=>by unfold has;rw[AW h,Bool.or_true]);refine⟨c.below,c.old,fun i y O=>n i (c.use i y O),c.own,c.inj,fun i q k=>(f.i4 i q k).elim (fun h=>h) (fun h=>n i (c.ko i q h)),fun i a k=>?_,fun i q k e=>?_,fun i a k e=>?_,fun i y e=>⟨(c.pin i y e).1,f.i3 _ (c.pin i y e).2⟩⟩
  ·exact(f.i6 i a k).elim (fun h=>h) (fun h=>n i (c.kr i a h))
  ·rcases f.i2 i q k with g|g
   ·exact c.objs i q g e
   ·have:=c.free g;rw[this]at e;cases e
  ·rcases f.i1 i a k with g|g
   ·exact c.arrz i a g e
   ·have:=c.free g;rw[this]at e;cases e
 ·cases H with
  | a lo m =>
   obtain⟨T,J,q,_,_,b,_,j,_⟩:=f.a i o lo m x C;rw[A]at b;injection b with b;subst b
   exact r.hs.free j
  | o lo m =>
   obtain⟨J,b,_,j,_⟩:=f.o i o lo m x C;rw[A]at b;injection b with b;subst b
   exact r.hs.free j
  | _=>cases F
 ·rcases f.i5 t v N with⟨i,o,H,x,C,M,A⟩|g
  ·have:=G i o H x C M A;rw[zZ]at this;split at this<;>cases this
  ·exact r.tmp t v g
theorem s5{Q:Exit→Act→World→Prop}{e:b6}{id:Nat}(σ:Nat→AS)(p:List Tag)(K:Nat)(g:u.P.follows .mixedOrders=true)(f:Stat ops p K)(b:p.length=ops.size)(d:gu u.P u.n B ops p K σ)
  (h:VE u Q e .normal (σ K)):VE u Q (.c (.region id ops true)::e) .normal B:=fun a w ι c=>by
 refine wpIn_region_any g (bD.any f b d (fun a w ι i=>h a w ι i) ops.size _ a _ 0 ι (by simp[ec]) (bD.start f d c))
end
def bT(lo:Nat):Nat→(Nat→Prop)→Prop
 | 0,_=>True
 | n+1,p=>p lo∧bT (lo+1) n p
theorem ga{p:Nat→Prop}:∀{n lo:Nat},bT lo n p→∀j,lo≤j→j<lo+n→p j
 | 0,lo,_,j,a,b=>by omega
 | n+1,lo,h,j,a,b=>by
  by_cases e:j=lo
  ·subst e;exact h.1
  ·exact ga h.2 j (by omega) (by omega)
def nth:em→Nat→AS
 | [],_=>⟨[],[],[],[]⟩
 | s::_,0=>s
 | _::r,n+1=>nth r n
def fj{α:Type}:List (Nat×α)→List (Nat×α)→List (Nat×α)
 | [],l=>l
 | (k,v)::r,l=>fj r (aD k v l)
theorem fJ{α:Type}:∀(m l:List (Nat×α)) (k:Nat) (v:α),look k (fj m l)=some v→(∃p∈m,p.1=k)∨look k l=some v
 | [],l,k,v,h=>.inr h
 | (j,x)::r,l,k,v,h=>by
  rcases fJ r _ k v h with⟨p,b,e⟩|a
  ·exact .inl ⟨p,Ae _ b,e⟩
  ·rw[bz]at a;by_cases e:k=j
   ·exact .inl ⟨(j,x),u2,e.symm⟩
   ·rw[o9 e]at a;exact .inr a
def lW(P:Program)(n:Nat)(s:AS)(o:Oper):Prop :=
 match o.op with
 | .call c=>match c.callee with
  | .value b=>match s.ev b,bJ s c.args.toList,o.dst with
   | some (.fn f a),some l,some d=>match look d s.t with
    | some V=>d<n∧bS [] l=true∧V.bu []=true∧bW P f=true∧aF P f (l.map dA++a) (fun v _=>v=V)
    | none=>False
   | _,_,_=>False
  | _=>False
 | _=>False
theorem vm{P:Program}{n:Nat}{ops:Array Oper}{s:AS}{o:Oper}(h:lW P n s o∨(nA P n s o∨m7 P n ops s o)):qO P n ops s o:=by
 rcases h with h|h
 case inr=>exact .inr h
 left;unfold lW at h;unfold nW;split at h
 ·split at h
  ·split at h
   ·rename_i f a l d b c e;split at h
    ·rename_i V g;exact⟨f,a,l,V,d,b,c,e,g,h.1,h.2.1,h.2.2.1,h.2.2.2.1,h.2.2.2.2⟩
    ·cases h
   ·cases h
  ·cases h
 ·cases h
def pb(P:Program)(n:Nat)(b:AS)(o:Oper)(p:Nat→bl→Prop):Prop :=
 match o.op with
 | .alloc T=>match o.dst,da P T with
  | some d,some a=>d<min n 450000∧has b.u d=false∧p d a
  | _,_=>False
 | _=>False
def ox(n:Nat)(o:Oper)(s:AS):Prop:=match o.dst with|some d=>look d s.t=none∨(look d s.t=some (.tup [])∧d<n)|none=>True
def kW:List Oper→List Tag→Nat→Nat→Bool
 | o::r,g::a,m,t=>((match o.dst with|some d=>Nat.beq d t|none=>false)&&(g.bZ&&Nat.ble m g.bC.1))||kW r a m t
 | _,_,_,_=>false
theorem rN:∀{l:List Oper} {b:List Tag} {m t:Nat},kW l b m t=true→∃(i:Nat) (o:Oper) (g:Tag),l[i]?=some o∧b[i]?=some g∧g.bZ=true∧o.dst=some t∧m≤g.bC.1
 | [],_,m,t,h=>by cases h
 | _::_,[],m,t,h=>by cases h
 | o::r,g::b,m,t,h=>by
  unfold kW at h;rw[tl]at h;rcases h with h|h
  ·rw[fz,fz]at h;obtain⟨a,c,e⟩:=h;refine⟨0,o,g,rfl,rfl,c,?_,f6 e⟩;split at a
   ·rename_i d j;rw[j,iN a]
   ·cases a
  ·obtain⟨i,k,f,a,c,e⟩:=rN h;exact⟨i+1,k,f,by simpa using a,by simpa using c,e⟩
def cv(P:Program)(n:Nat)(c:AS)(b:Array Oper)(f:List Tag)(K:Nat)(a:em)(o:Oper):Tag→Prop
 | .s 0=>False
 | .s (m+1)=>cM b (nth a m) true o.guard∧(aH P n (nth a m) o=some (nth a (m+1))∨(n4 P n b (nth a m) (nth a (m+1)) o∨∃s' L,n4 P n b (nth a m) s' o∧s'.tt (fj L s'.t)=nth a (m+1)∧(L.all fun p=>kW b.toList f (m+1) p.1)=true))
 | .v lo k=>bT lo k fun j=>cM b (nth a j) true o.guard∧aH P n (nth a j) o=some (nth a j)
 | .c lo k=>bT lo k fun j=>cM b (nth a j) true o.guard∧(lW P n (nth a j) o∨(nA P n (nth a j) o∨m7 P n b (nth a j) o))
 | .a lo k=>o.guard=none∧pb P n c o fun d e=>bT lo k fun j=>look d (nth a j).o=some e∧look d (nth a j).r=none∧look d (nth a j).t=some (.ptr d 0)∧has (nth a j).u d=true
 | .o lo k=>∃d,o.dst=some d∧d<n∧has c.u d=false∧bT lo k fun j=>cM b (nth a j) true o.guard∧lG P n (nth a j) o d
 | .off lo k=>o.guard≠none∧(bT lo k fun j=>cM b (nth a j) false o.guard)∧bT 0 (K+1) fun j=>ox n o (nth a j)
def cg(P:Program)(n:Nat)(b:AS)(a:Array Oper)(c:List Tag)(K:Nat)(d:em):List Oper→List Tag→Prop
 | o::r,t::ts=>cv P n b a c K d o t∧cg P n b a c K d r ts
 | _,_=>True
theorem rL{P:Program}{n:Nat}{d:AS}{a:Array Oper}{e:List Tag}{K:Nat}{f:em}:∀{l:List Oper} {ts:List Tag},cg P n d a e K f l ts→∀(i:Nat) (o:Oper) (t:Tag),l[i]?=some o→ts[i]?=some t→cv P n d a e K f o t
 | [],_,_,i,o,t,h,_=>by simp at h
 | _::_,[],_,i,o,t,_,h=>by simp at h
 | g::r,j::ts,h,0,o,t,b,c=>by simp at b c;subst b;subst c;exact h.1
 | g::r,j::ts,h,i+1,o,t,b,c=>rL h.2 i o t (by simpa using b) (by simpa using c)
def fc(s:AS)(b:List dO)(a:List (Nat×bl))(rl:List (Nat×bw)):AS:={ t:=fj b s.t,o:=fj a s.o,r:=fj rl s.r,u:=rl.map (·.1)++(a.map (·.1)++s.u) }
def fresh{α:Type}(u:ck):List (Nat×α)→Prop
 | []=>True
 | (k,_)::r=>has u k=false∧fresh u r
theorem nx{α:Type}{u:ck}:∀{l:List (Nat×α)},fresh u l→∀p∈l,has u p.1=false
 | [],_,p,a=>by cases a
 | (k,x)::r,h,p,a=>by
  rcases Ac.1 a with rfl|a
  ·exact h.1
  ·exact nx h.2 p a
end Go.Proofs.Ytkciiamllegclaa
namespace Go.Proofs.Ytkciiamllegclaa
set_option linter.all false
variable[ZX]
open Go.ChangeShapes Go.WideShapes Go.ChangeAt Go.RowKit
inductive bc (P:Program):TypeId→bl→Prop
 | bool (t:TypeId) (b:Bool) (h:P.underlying t=some .bool):bc P t [.bool b]
 | int (t:TypeId) (k:IntKind) (n:Int) (h:P.underlying t=some (.int k)) (hw:(Lit.int k n).wf=true):bc P t [.int k n]
 | str (t:TypeId) (s:ByteArray) (h:P.underlying t=some .string) (hs:s.size≤reachBytes):bc P t [.str s]
 | sl (t e:TypeId) (l:List bl) (h:P.underlying t=some (.slice e)) (hl:l.length≤maxLen) (hz:∀c∈l,c.length=P.cellsOf e) (hc:∀c∈l,bc P e c):bc P t [.sl l]
 | struct (t:TypeId) (fs:Array Field) (parts:List bl) (h:P.underlying t=some (.struct fs)) (hl:parts.length=fs.size)
   (hp:∀(i:Nat) (f:Field) (c:bl),fs[i]?=some f→parts[i]?=some c→bc P f.type c):bc P t parts.flatten
 | array (t e:TypeId) (n:Nat) (parts:List bl) (h:P.underlying t=some (.array n e)) (hl:parts.length=n)
   (hp:∀(c:bl),c∈parts→bc P e c):bc P t parts.flatten
def gt(P:Program)(ts:List TypeId)(t:TypeId):Bool :=
 match P.underlying t with
 | some .bool|some (.int _)|some .string=>true
 | some (.slice e)=>ts.contains e&&!(P.cellsOf e == 0)
 | some (.struct a)=>(a.toList.map fun f=>P.cellsOf f.type).sum == P.cellsOf t &&
   (List.range a.size).all fun i=>match a[i]? with|some f=>ts.contains f.type&&f.offset == ((a.toList.take i).map fun f=>P.cellsOf f.type).sum|none=>false
 | some (.array n e)=>ts.contains e&&P.cellsOf t == n*P.cellsOf e
 | _=>false
def rF(P:Program)(ts:List TypeId):Bool:=ts.all fun t=>gt P ts t
theorem kL{α:Type}{p:Nat→α→Prop}:∀n,(∀i,i<n→∃a,p i a)→∃l:List α,l.length=n∧∀i a,l[i]?=some a→p i a
 | 0,_=>⟨[],rfl,fun i a h=>by grind⟩
 | n+1,h=>by
  obtain⟨l,c,d⟩:=kL (p:=p) n (fun i g=>h i (by omega));obtain⟨a,e⟩:=h n (by omega);refine⟨l++[a],by grind,fun i b f=>?_⟩
  grind
theorem Cells.append{N:Nat→Prop}{w:World}{ι:Env}{a b:bl}{x y:b5}(h:Cells N w ι a x)(g:Cells N w ι b y):Cells N w ι (a++b) (x++y):=by
 refine⟨by simp[h.len,g.len],fun v d=>?_,fun i c v e d=>?_⟩
 ·rcases jt.1 d with d|d
  ·exact h.one v d
  ·exact g.one v d
 ·by_cases f:i<a.length
  ·rw[og f]at e;rw[og (by rw[←h.len];grind)]at d;exact h.rel i c v e d
  ·rw[kc (by omega)]at e;rw[kc (by rw[←h.len];omega),← h.len]at d;exact g.rel _ c v e d
theorem mT{N:Nat→Prop}{w:World}{ι:Env}:∀(b:ck) (a:List bl) (d:b5) (off:Nat),a.length=b.length→off+b.sum≤d.length →
  (∀(i:Nat) (c:bl) (n:Nat),a[i]?=some c→b[i]?=some n→Cells N w ι c ((d.drop (off+(b.take i).sum)).take n))→Cells N w ι a.flatten ((d.drop off).take b.sum)
 | [],a,d,off,f,_,_=>by
  have:a=[]:=iF (by simpa using f);subst this;simp only[List.flatten_nil,List.sum_nil,A3];exact⟨rfl,fun v q=>(by cases q),fun i c v g _=>by simp at g⟩
 | n::b,[],d,off,f,_,_=>by simp at f
 | n::b,p::a,d,off,f,o,h=>by
  have j:=h 0 p n rfl rfl;simp only[A3,List.sum_nil,zU]at j;simp only[List.sum_cons]at o⊢;have k:=mT b a d (off+n) (by simpa using f) (by omega) (fun i c m g l=>by
   have:=h (i+1) c m (by simpa using g) (by simpa using l);simp only[List.take_succ_cons,List.sum_cons]at this;rw[show off+n+(b.take i).sum=off+(n+(b.take i).sum) by omega];exact this)
  have e:(d.drop off).take (n+b.sum)=(d.drop off).take n++(d.drop (off+n)).take b.sum:=by
   rw[List.take_add,List.drop_drop]
  rw[e,List.flatten_cons];exact j.append k
def cB:Nat→Prop:=fun _=>False
section
variable{H:Type}{enc:TypeId×Value→H}{P:Program}{w:World}{base:Nat}{g:Nat→Bool}{p:Bool}{ts:List TypeId}
theorem mo{e:TypeId}:∀{l:List (DataW H)},(DataW.weightsAll P e l).all (· ≤ reachBytes)=true→∀{i:Nat} {d:DataW H},l[i]?=some d→(d.weights P e).all (· ≤ reachBytes)=true
 | [],_,i,d,h=>by simp at h
 | x::r,a,i,d,h=>by
  simp only[DataW.weightsAll,AA,fz]at a;cases i with
  | zero=>simp at h;subst h;exact a.1
  | succ i=>exact mo a.2 (by simpa using h)
theorem oF:∀{ts:List TypeId} {l:List (DataW H)},(DataW.weightsEach P ts l).all (· ≤ reachBytes)=true→∀{i:Nat} {t:TypeId} {d:DataW H},ts[i]?=some t→l[i]?=some d→(d.weights P t).all (· ≤ reachBytes)=true
 | [],_,_,i,t,d,h,_=>by simp at h
 | _::_,[],_,i,t,d,_,h=>by simp at h
 | t0::ts,x::r,a,i,t,d,b,h=>by
  simp only[DataW.weightsEach,AA,fz]at a;cases i with
  | zero=>simp at h b;subst h;subst b;exact a.1
  | succ i=>exact oF a.2 (by simpa using b) (by simpa using h)
theorem y4[NZ](t0:rF P ts=true):∀(E:Nat) (t:TypeId) (Z:b5) (x:DataW H×List MemPlace),ts.contains t=true→DataW.trod enc P w base g p E t Z=some x→(x.1.weights P t).all (· ≤ reachBytes)=true→∃as,bc P t as∧Cells cB w aG as Z:=by
 intro E
 induction E with
 | zero=>intro t Z x _ h;simp[DataW.trod]at h
 | succ E ih =>
  intro t Z x ht h D;have L:gt P ts t=true:=lp.1 t0 t (by simpa using ht);unfold gt at L;have V:∀{a:AV} {v:Value},Rel cB w aG a v→v.oneCell'=true→Cells cB w aG [a] [v]:=fun hr ho =>
   ⟨rfl,fun u r=>by simp at r;subst r;exact ho,fun i c u d r=>by
    cases i with
    | zero=>simp at d r;subst d;subst r;exact hr
    | succ i=>simp at d⟩
  split at L
  ·rename_i r;obtain⟨b,rfl,_⟩:=DataW.trod_bool r h;exact⟨_,.bool t b r,V (.bool _ _) rfl⟩
  ·rename_i k r;obtain⟨n,rfl,_,hw⟩:=DataW.trod_int r h;exact⟨_,.int t k n r hw,V (.int _ _ _) rfl⟩
  ·rename_i r;obtain⟨s,rfl,rfl,_⟩:=DataW.trod_string r h;have hs:s.size≤reachBytes:=by simpa[DataW.weights]using D
   exact⟨_,.str t s r hs,V (.str _ _) rfl⟩
  ·rename_i e r;simp only[fz,zG,AB,ne_eq]at L;obtain⟨L,s0⟩:=L;obtain⟨rfl,_⟩|⟨a,d0,cap,J,z0,n,F,rfl,rfl,hb,C0,x0,A0,B,_⟩:=DataW.trod_slice r h
   ·exact⟨_,.sl t e [] r (by simp[maxLen]) (fun c d=>by cases d) (fun c d=>by cases d),V (.sl0 _ _ _ (.inl NZ.h)) rfl⟩
   ·injection F with F;subst F
    have A:∀i,i<d0→∃as,(bc P e as∧as.length=P.cellsOf e)∧∃vs,w.cells? base (a.add (i*P.cellsOf e)) (P.cellsOf e)=some vs∧Cells cB w aG as vs:=fun i y=>by
     have M:=B i y;rw[ez (by omega)]at M;cases d:w.cells? base (a.add (i*P.cellsOf e)) (P.cellsOf e) with
     | none=>rw[d]at M;cases M
     | some vs =>
      rw[d]at M;have U:(J[i].1.weights P e).all (· ≤ reachBytes)=true:=by
       simp only[DataW.weights,r,List.all_cons,AA,fz]at D;exact mo D.2.1 (i:=i) (by simp[ez (show i<J.length by omega)])
      obtain⟨as,W,X⟩:=ih e vs _ L M U;exact⟨as,⟨W,by rw[X.len];exact(World.cells?_some d).2.1⟩,vs,rfl,X⟩
    obtain⟨l,i0,Q⟩:=kL d0 A;refine⟨[.sl l],.sl t e l r (by omega) (fun c d=>?_) (fun c d=>?_),V ?_ rfl⟩
    ·obtain⟨i,y,rfl⟩:=zI.1 d;exact(Q i _ (ez y)).1.2
    ·obtain⟨i,y,rfl⟩:=zI.1 d;exact(Q i _ (ez y)).1.1
    ·by_cases h0:l=[]
     ·subst h0;have:d0=0:=by simpa using i0.symm
      subst this;exact .sl0 _ _ _ (.inl NZ.h)
     ·by_cases hz:P.cellsOf e=0
      ·exact(s0 hz).elim
      ·have k0:0<l.length:=A6.2 h0;have z:∀j as,l[j]?=some as→∀i c,as[i]?=some c→∃v,w.cell? ((a.add (j*P.cellsOf e)).add i)=some v∧v.oneCell'=true∧Rel cB w aG c v:=fun j as hj i c d=>by
        obtain⟨⟨_,O⟩,vs,w0,g0⟩:=Q j as hj;obtain⟨_,X,g3⟩:=World.cells?_some w0;have y:i<P.cellsOf e:=by rw[←O];exact(es.1 d).1
        have hv:=ez (l:=vs) (i:=i) (by omega);exact⟨_,(g3 i y).trans hv,g0.one _ (zF _),g0.rel i c _ d hv⟩
       obtain⟨I,b0⟩:∃I,l[0]?=some I:=⟨_,ez k0⟩;have B0:=(Q 0 I b0).1.2;obtain⟨c0,p0⟩:∃c0,I[0]?=some c0:=⟨_,ez (by omega)⟩;obtain⟨v0,e0,_,_⟩:=z 0 I b0 0 c0 p0;have T:a.spot=none:=by
        have ea:(a.add (0*P.cellsOf e)).add 0=a:=by simp[Addr.add]
        rw[ea]at e0;cases hs:a.spot with
        | none=>rfl
        | some s =>
         unfold World.cell? at e0;split at e0
         ·rw[hs]at e0;simp at e0
         ·cases e0
       obtain⟨b,o,s⟩:=a;simp only at T;subst T;have o0:b<w.heap.size:=by
        have ea:((⟨b,o,none⟩:Addr).add (0*P.cellsOf e)).add 0=⟨b,o,none⟩:=by simp[Addr.add]
        rw[ea]at e0;exact block_lt_of_cell e0
       have l0:=Rel.sl (N:=cB) (w:=w) aG l b o cap (P.cellsOf e) (fun j i=>match w.cell? ⟨b,o+j*P.cellsOf e+i,none⟩ with|some v=>(if v.oneCell'=true then v else .bool true)|none=>.bool true)
        (fun c d=>by
         obtain⟨i,y,rfl⟩:=zI.1 d;exact(Q i _ (ez y)).1.2) o0 (fun h=>h)
        (fun j i=>by split<;>(try split)<;>first|assumption|rfl)
        (fun j as hj i c d=>by
         obtain⟨v,W,X,_⟩:=z j as hj i c d;rw[v4,v4]at W;simp only[W,X,wl])
        (fun j as hj i c d=>by
         obtain⟨v,W,X,g3⟩:=z j as hj i c d;rw[v4,v4]at W;simp only[W,X,wl];exact g3) ⟨by omega,.inl NZ.h⟩
       rw[i0]at l0;exact l0
  ·rename_i K r;simp only[fz,z5,lp,v8]at L;obtain⟨m0,a0⟩:=L;obtain⟨xs,n,F,rfl,hl,O,B⟩:=DataW.trod_struct r h;injection F with F;subst F
   have A:∀i,i<K.size→∃as,∀f,K[i]?=some f→bc P f.type as∧Cells cB w aG as ((Z.drop f.offset).take (P.cellsOf f.type)):=fun i y=>by
    have C:=hM (xs:=K) y;have M:=B i _ C;rw[ez (by omega)]at M;have ha:=a0 i y;rw[C]at ha;simp only[fz]at ha;have U:(xs[i].1.weights P K[i].type).all (· ≤ reachBytes)=true:=by
     simp only[DataW.weights,r]at D;exact oF D (i:=i) (by simp[zK,v5,C]) (by simp[ez (show i<xs.length by omega)])
    obtain⟨as,W,X⟩:=ih _ _ _ ha.1 M U;exact⟨as,fun f Y=>by rw[C]at Y;injection Y with Y;subst Y;exact⟨W,X⟩⟩
   obtain⟨q,G,S⟩:=kL K.size A;refine⟨q.flatten,.struct t K q r G (fun i f c F d=>(S i c d f F).1),?_⟩;have:=mT (N:=cB) (w:=w) (ι:=aG) (K.toList.map fun f=>P.cellsOf f.type) q Z 0 (by simp[G]) (by omega) (fun i c m d R=>by
    rw[zK]at R;have y:i<K.size:=by rw[←G];exact(es.1 d).1
    have C:=hM (xs:=K) y;have r0:K.toList[i]?=some K[i]:=by simp
    rw[r0]at R;simp only[us,h7]at R;subst R;have ha:=a0 i y;rw[C]at ha;simp only[fz,z5]at ha;have:=(S i c d _ C).2;rw[ha.2]at this;rw[u3,← List.map_take];exact this)
   rw[z6,m0,Ak (by omega)]at this;exact this
  ·rename_i n e r;simp only[fz,z5]at L;obtain⟨he,q0⟩:=L;obtain⟨xs,m,F,rfl,hl,O,B⟩:=DataW.trod_array r h;injection F with F;subst F
   have A:∀i,i<n→∃as,bc P e as∧Cells cB w aG as ((Z.drop (i*P.cellsOf e)).take (P.cellsOf e)):=fun i y=>by
    have M:=B i y;rw[ez (by omega)]at M;have U:(xs[i].1.weights P e).all (· ≤ reachBytes)=true:=by
     simp only[DataW.weights,r]at D;exact mo D (i:=i) (by simp[ez (show i<xs.length by omega)])
    exact ih _ _ _ he M U
   obtain⟨q,G,S⟩:=kL n A;refine⟨q.flatten,.array t e n q r G (fun c d=>?_),?_⟩
   ·obtain⟨i,y,rfl⟩:=zI.1 d;exact(S i _ (ez y)).1
   ·have:=mT (N:=cB) (w:=w) (ι:=aG) (List.replicate n (P.cellsOf e)) q Z 0 (by simp[G]) (by simp;omega) (fun i c m d R=>by
     rw[Ah]at R;split at R
     ·injection R with R;subst R
      rename_i y;have:=(S i c d).2;rw[u3,List.take_replicate,Nat.min_eq_left (by omega),AU];exact this
     ·cases R)
    rw[z6,AU,← q0,Ak (by omega)]at this;exact this
  ·cases L
end
theorem we{N:Nat→Prop}{w:World}{as:bl}{v:Value}(h:Cells N w aG as v.cells.toList):(∃b,v=.agg b)∨∃a,as=[a]∧Rel N w aG a v:=by
 cases v with
 | agg b=>grind
 | _ =>
  right
  match as,h.len with
  | [a],_=>exact⟨a,rfl,h.rel 0 a _ rfl rfl⟩
section
variable{P:Program}
theorem bc.gen{t:TypeId}{d:bl}(h:bc P t d):match P.underlying t with
  | some .bool=>∃b,d=[.bool b]
  | some (.int k)=>∃n,d=[.int k n]∧(Lit.int k n).wf=true
  | some .string=>∃s:ByteArray,d=[.str s]∧s.size≤reachBytes
  | some (.slice e)=>∃l,d=[.sl l]∧l.length≤maxLen∧(∀c∈l,c.length=P.cellsOf e)∧∀c∈l,bc P e c
  | some (.struct j)=>∃a:List bl,d=a.flatten∧a.length=j.size∧∀(i:Nat) (f:Field) (c:bl),j[i]?=some f→a[i]?=some c→bc P f.type c
  | some (.array n e)=>∃a:List bl,d=a.flatten∧a.length=n∧∀c∈a,bc P e c
  | _=>False:=by
 cases h with
 | bool _ b h=>rw[h];exact⟨b,rfl⟩
 | int _ k n h q=>rw[h];exact⟨n,rfl,q⟩
 | str _ s h p=>rw[h];exact⟨s,rfl,p⟩
 | sl _ e l h g r o=>rw[h];exact⟨l,rfl,g,r,o⟩
 | struct _ j a h g m=>rw[h];exact⟨a,rfl,g,m⟩
 | array _ e n a h g m=>rw[h];exact⟨a,rfl,g,m⟩
theorem bc.int_inv{t}{k}{a}(b:P.underlying t=some (.int k))(h:bc P t a):∃n,a=[.int k n]∧(Lit.int k n).wf=true:=by have:=h.gen;grind
theorem bc.bool_inv{t}{a}(c:P.underlying t=some .bool)(h:bc P t a):∃b,a=[.bool b]:=by have:=h.gen;grind
theorem bc.str_inv{t:TypeId}{a:bl}(b:P.underlying t=some .string)(h:bc P t a):∃s:ByteArray,a=[.str s]∧s.size≤reachBytes:=by have:=h.gen;rw[b]at this;exact this
theorem bc.sl_inv{t e}{a}(b:P.underlying t=some (.slice e))(h:bc P t a):∃l,a=[.sl l]∧l.length≤maxLen∧(∀c∈l,c.length=P.cellsOf e)∧∀c∈l,bc P e c:=by have:=h.gen;grind
inductive KA where
 | int (k:IntKind)
 | str
 | bool
def KA.fits:KA→AV→Prop
 | .int k,a=>∃n,a=.int k n∧(Lit.int k n).wf=true
 | .str,a=>∃s:ByteArray,a=.str s∧s.size≤maxLen
 | .bool,a=>∃b,a=.bool b
def eE:List KA→bl→Prop
 | [],[]=>True
 | k::b,a::as=>k.fits a∧eE b as
 | _,_=>False
theorem eE.append:∀{a b} {x y},eE a x→eE b y→eE (a++b) (x++y)
 | [],_,[],_,_,h=>h
 | [],_,_::_,_,h,_=>h.elim
 | _::_,_,[],_,h,_=>h.elim
 | k::c,_,a::as,_,h,g=>⟨h.1,eE.append h.2 g⟩
def gQ(P:Program):Nat→TypeId→Option (List KA)
 | 0,_=>none
 | d+1,t=>match P.underlying t with
  | some .bool=>some [.bool]
  | some (.int k)=>some [.int k]
  | some .string=>some [.str]
  | some (.struct a)=>(a.toList.mapM fun f=>gQ P d f.type).map List.flatten
  | some (.array n e)=>(gQ P d e).map fun l=>(List.replicate n l).flatten
  | _=>none
theorem mD:∀{b:List (List KA)} {a:List bl},a.length=b.length→(∀(i:Nat) d c,b[i]?=some d→a[i]?=some c→eE d c)→eE b.flatten a.flatten
 | [],[],_,_=>trivial
 | [],_::_,h,_=>by grind
 | _::_,[],h,_=>by grind
 | d::b,c::a,h,g=>by
  exact(g 0 d c rfl rfl).append (mD (by grind) (fun i ks' e f j=>g (i+1) ks' e (by grind) (by grind)))
theorem bc.flat:∀{d:Nat} {t:TypeId} {x:bl} {u:List KA},bc P t x→gQ P d t=some u→eE u x
 | 0,_,_,_,_,h=>by cases h
 | d+1,t,x,u,h,a=>by
  have g:=h.gen;unfold gQ at a;split at a
  ·rename_i j;rw[j]at g;obtain⟨b,rfl⟩:=g;injection a with a;subst a;exact⟨⟨b,rfl⟩,trivial⟩
  ·rename_i k j;rw[j]at g;obtain⟨n,rfl,E⟩:=g;injection a with a;subst a;exact⟨⟨n,rfl,E⟩,trivial⟩
  ·rename_i j;rw[j]at g;obtain⟨s,rfl,D⟩:=g;injection a with a;subst a;exact⟨⟨s,rfl,Ap D (by decide)⟩,trivial⟩
  ·rename_i q j;rw[j]at g;obtain⟨p,rfl,w,A⟩:=g;cases o:q.toList.mapM (fun f=>gQ P d f.type) with
   | none=>rw[o]at a;cases a
   | some F =>
    rw[o]at a;injection a with a;subst a
    have r:=mapM_some_length o;refine mD (by rw[w,r];simp) (fun i u c m v=>?_);have C:i<q.size:=by rw[←w];exact(es.1 v).1
    have y:=hM (xs:=q) C;have z:q.toList[i]?=some q[i]:=by simp
    have B:=mapM_some_get o i q[i] z;rw[m]at B;exact(A i _ c y v).flat B
  ·rename_i n e j;rw[j]at g;obtain⟨p,rfl,w,A⟩:=g;cases o:gQ P d e with
   | none=>rw[o]at a;cases a
   | some l =>
    rw[o]at a;injection a with a;subst a
    refine mD (by simp[w]) (fun i u c m v=>?_);rw[Ah]at m;split at m
    ·injection m with m;subst m
     exact(A c (h6 v)).flat o
    ·cases m
  ·cases a
end
end Go.Proofs.Ytkciiamllegclaa
namespace Go.Proofs.Ytkciiamllegclaa
set_option linter.all false
variable[ZX]
open Go.RowKit
variable[FM]
def fQ:Code→ck→Code
 | c,[]=>c
 | .seq a _,0::p=>fQ a p
 | .seq _ b,_::p=>fQ b p
 | .cond _ a _,0::p=>fQ a p
 | .cond _ _ b,_::p=>fQ b p
 | .block _ c,_::p=>fQ c p
 | .loop c,_::p=>fQ c p
 | c,_::_=>c
def cat(f:Func)(p:ck):Code:=match f.body with|some c=>fQ c p|none=>.skip
def opsOf:Code→Array Oper
 | .region _ ops _=>ops
 | _ => #[]
def bI(f:Func)(p:ck):Array Oper:=opsOf (cat f p)
def bh(f:Func)(p:ck)(k:Nat):Oper:=((bI f p).toList.drop k).headD default
def aP(f:Func)(p:ck)(k:Nat):List Oper:=(bI f p).toList.drop k
def gO(a:Array Oper)(s:AS)(j:Nat):Option Bool :=
 match a.toList[j]? with
 | some b=>match b.dst with
  | some d=>match look d s.t with
   | some (.bool v)=>some v
   | _=>none
  | none=>none
 | none=>none
def jS(n:Nat)(s:AS)(o:Oper):Option AS:=match cc n o.dst with|true=>some (s.put o.dst (.tup []))|false=>none
def kN(a:Array Oper)(s:AS)(j:Nat):Bool :=
 match a.toList[j]? with
 | some b=>match b.dst with
  | some d=>match look d s.t with
   | some (.tup [])=>true
   | _=>false
  | none=>false
 | none=>false
theorem pw{a}{s}{j}(h:kN a s j=true):∃b d,a.toList[j]?=some b∧b.dst=some d∧look d s.t=some (.tup []):=by
 grind[kN]
def er(P:Program)(n:Nat)(a:Array Oper)(s:AS)(o:Oper):Option AS :=
 match o.guard with
 | none=>aH P n s o
 | some (j,b)=>match gO a s j with
  | some true=>match b with|true=>aH P n s { o with guard:=none }|false=>jS n s o
  | some false=>match b with|false=>aH P n s { o with guard:=none }|true=>jS n s o
  | none=>match kN a s j with|true=>jS n s o|false=>none
def eM(P:Program)(n:Nat)(a:Array Oper):Nat→List Oper→AS→Option (List Oper×AS)
 | 0,l,s=>some (l,s)
 | _+1,[],s=>some ([],s)
 | k+1,o::r,s=>match er P n a s o with
  | some s'=>eM P n a k r s'
  | none=>none
theorem gp{a}{s}{j}{v}(h:gO a s j=some v):∃b d,a.toList[j]?=some b∧b.dst=some d∧look d s.t=some (.bool v):=by
 grind[gO]
section
variable{c:Cx}{Q:Exit→Act→World→Prop}{e:b6}{s:AS}
theorem m8{f:Array Oper}{o p:Oper}{r:List Oper}{s':AS}{j d:Nat}{b:Bool}{v:AV}(u:o.guard=some (j,b))(y:f.toList[j]?=some p)(t:p.dst=some d)(A:look d s.t=some v)(m:v=.bool (!b)∨v=.tup [])(g:jS c.n s o=some s')(k:OT c Q e f r s'):OT c Q e f (o::r) s:=fun a w ι q=>by
 obtain⟨x,n,z⟩:=q.tmp d _ A;have l:f[j]?=some p:=by simpa using y
 have B:¬ Region.wanted o (yielded f a.tmps)=true:=by
  rcases m with rfl|rfl<;>cases z<;>cases b<;>simp[Region.wanted,u,yielded,l,t,n]
 unfold wpListIn;rw[o9 B];unfold jS at g;split at g
 ·rename_i h;injection g with g;subst g
  exact⟨fun _ _=>trivial,k _ _ _ (q.put (lS h) (.tup _ _ [] rfl (fun i x v n _=>by simp at n)))⟩
 ·cases g
theorem pD{a:Array Oper}{o:Oper}{r:List Oper}{s':AS}(h:er c.P c.n a s o=some s')(k:OT c Q e a r s'):OT c Q e a (o::r) s:=by
 unfold er at h;split at h
 ·rename_i f;exact oE f h k
 ·rename_i j b f;split at h
  ·rename_i m;obtain⟨n,d,g,i,l⟩:=gp m;cases b with
   | true=>exact k9 f g i l (oE rfl h k)
   | false=>exact m8 f g i l (.inl rfl) h k
  ·rename_i m;obtain⟨n,d,g,i,l⟩:=gp m
   grind[k9,oE,m8]
  grind[pw,m8]
theorem jF{a}:∀k l s {l'} {s'},eM c.P c.n a k l s=some (l',s')→OT c Q e a l' s'→OT c Q e a l s
 | 0,l,s,l',s',h,b=>by grind[eM]
 | k+1,[],s,l',s',h,b=>by grind[eM]
 | k+1,o::r,s,l',s',h,b=>by
  unfold eM at h;split at h
  ·rename_i f d;exact pD d (jF k r f h b)
  grind
theorem xj{a}{l r}{s'} o(b:l=o::r)(h:er c.P c.n a s o=some s')(k:OT c Q e a r s'):OT c Q e a l s:=b ▸ pD h k
end
theorem tx{P}{n}{a}{s s'}{o}(b:o.guard=none)(h:aH P n s o=some s'):er P n a s o=some s':=by
 grind[er]
theorem xl{P}{n}{a}{s s'}{o}{j}{b}(c:o.guard=some (j,b))(d:gO a s j=some b)(h:aH P n s { o with guard:=none }=some s'):er P n a s o=some s':=by
 grind[er]
def bN(a:Array Oper)(s:AS)(o:Oper):Bool:=match o.guard with
 | none=>true
 | some (j,b)=>match gO a s j with
  | some v=>(match v,b with|true,true=>true|false,false=>true|_,_=>false)
  | none=>false
theorem te{P}{n}{a}{s s'}{o}(c:bN a s o=true)(h:aH P n s o=some s'):er P n a s o=some s':=by
 unfold bN at c;split at c
 ·grind[tx]
 ·rename_i j b d;split at c
  ·refine xl d (b:=b) ?_ h
   grind
  grind
def nD(P:Program)(n:Nat):b6→Exit→AS→Option (b6×Exit×AS)
 | .c .skip::a,.normal,s=>some (a,.normal,s)
 | .c (.seq x y)::a,.normal,s=>some (.c x :: .c y::a,.normal,s)
 | .c (.block id c)::a,.normal,s=>some (.c c :: .b id::a,.normal,s)
 | .b _::a,.normal,s=>some (a,.normal,s)
 | .c (.exit id)::a,.normal,s=>some (a,.exit id,s)
 | .c .ret::a,.normal,s=>some (a,.ret,s)
 | .c (.cond c x y)::a,.normal,s=>match s.ev c with
  | some (.bool true)=>some (.c x::a,.normal,s)
  | some (.bool false)=>some (.c y::a,.normal,s)
  | _=>none
 | .c (.region _ ops false)::a,.normal,s=>match eM P n ops 10000 ops.toList s with
  | some ([],s')=>some (a,.normal,s')
  | _=>none
 | .c _::a,.exit id,s=>some (a,.exit id,s)
 | .l _::a,.exit id,s=>some (a,.exit id,s)
 | .b b::a,.exit id,s=>match Nat.beq id b with
  | true=>some (a,.normal,s)
  | false=>some (a,.exit id,s)
 | .c _::a,.ret,s=>some (a,.ret,s)
 | .l _::a,.ret,s=>some (a,.ret,s)
 | .b _::a,.ret,s=>some (a,.ret,s)
 | _,_,_=>none
def fL(P:Program)(n:Nat):Nat→b6→Exit→AS→Option (b6×Exit×AS)
 | 0,a,e,s=>some (a,e,s)
 | k+1,a,e,s=>match nD P n a e s with
  | some (ks',b,s')=>fL P n k ks' b s'
  | none=>none
theorem uZ{b:Cx}{Q:Exit→Act→World→Prop}{g:b6}{e:Exit}{s:AS}{ks':b6}{f:Exit}{s':AS}(h:nD b.P b.n g e s=some (ks',f,s'))(a:VE b Q ks' f s'):VE b Q g e s:=by
 unfold nD at h;split at h
 case h_7 =>
  split at h
  ·rename_i d;simp only[h7,nw]at h;obtain⟨rfl,rfl,rfl⟩:=h;exact xt d a
  ·rename_i d;simp only[h7,nw]at h;obtain⟨rfl,rfl,rfl⟩:=h;exact xE d a
  ·cases h
 case h_8 =>
  split at h
  ·rename_i i;simp only[h7,nw]at h;obtain⟨rfl,rfl,rfl⟩:=h;exact rD (jF _ _ _ i (qK a))
  ·cases h
 case h_11 =>
  split at h
  ·rename_i c;have:=iN c;simp only[h7,nw]at h;obtain⟨rfl,rfl,rfl⟩:=h;subst this;exact sV a
  ·rename_i c;simp only[h7,nw]at h;obtain⟨rfl,rfl,rfl⟩:=h;exact ud (fun e=>by subst e;rw[Nat.beq_refl]at c;cases c) a
 all_goals (first|(simp only[h7,nw]at h;obtain⟨rfl,rfl,rfl⟩:=h;first|exact tH a|exact wP a|exact uz a|exact xd a|exact vj a|exact xi a|grind|exact yI a|grind|exact tp a|exact wg a)|grind)
theorem ni{a}{Q}:∀k c e s {ks'} {b} {s'},fL a.P a.n k c e s=some (ks',b,s')→VE a Q ks' b s'→VE a Q c e s:=by
 intro k
 induction k with
 | zero =>
  grind[fL]
 | succ k d =>
  grind[fL,uZ]
def dZ{α}(l:List (Nat×α)):ck→Option (List (Nat×α))
 | []=>some []
 | k::r=>match look k l,dZ l r with|some v,some m=>some ((k,v)::m)|_,_=>none
def kq(u:ck):List dO→Bool
 | []=>true
 | (_,v)::r=>v.bu u&&kq u r
def kP(u:ck):List (Nat×bl)→Bool
 | []=>true
 | (k,v)::r=>bS u v&&u.contains k&&kP u r
def lR(u:ck):List (Nat×bw)→Bool
 | []=>true
 | (k,_)::r=>u.contains k&&lR u r
def pins:ck→ck
 | []=>[]
 | k::r=>match Nat.ble 1000000 k with
  | true=>k::(k-1000000)::pins r
  | false=>pins r
theorem pP:∀{u:ck} {id:Nat},u.contains (co id)=true→(pins u).contains (co id)=true∧(pins u).contains id=true
 | [],_,h=>by cases h
 | k::r,id,h=>by
  simp only[List.contains_cons,tl,z5]at h;unfold pins;rcases h with h|h
  ·subst h;have:Nat.ble 1000000 (co id)=true:=by unfold co;simp
   rw[this];simp[co]
  ·have a:=pP h
   grind
def gW:List dO→ck
 | []=>[]
 | (_,.sit id _ _ _)::r=>id::gW r
 | _::r=>gW r
def AS.pick(s:AS)(ts a b:ck):Option AS :=
 match dZ s.t ts,dZ s.o a,dZ s.r b with
 | some t,some o,some r=>if (kq (a++b++(gW t++pins s.u)) t&&kP (a++b++(gW t++pins s.u)) o&&lR (a++b++(gW t++pins s.u)) r)=true then some ⟨t,o,r,a++b++(gW t++pins s.u)⟩ else none
 | _,_,_=>none
theorem oM{u}{l}:∀{d} {m},dZ l d=some m→kq u m=true→kO u l m
 | [],m,h,_=>by injection h with h;subst h;trivial
 | k::r,m,h,a=>by
  unfold dZ at h;split at h
  ·rename_i v e b c;injection h with h;subst h
   simp only[kq,fz]at a;exact⟨b,a.1,oM c a.2⟩
  grind
theorem sO{u}{l}:∀{d} {m},dZ l d=some m→kP u m=true→kE u l m
 | [],m,h,_=>by injection h with h;subst h;trivial
 | k::r,m,h,a=>by
  unfold dZ at h;split at h
  ·rename_i v e b c;injection h with h;subst h
   simp only[kP,fz]at a;exact⟨b,a.1.1,a.1.2,sO c a.2⟩
  grind
theorem po{u}{l}:∀{d} {m},dZ l d=some m→lR u m=true→kB u l m
 | [],m,h,_=>by injection h with h;subst h;trivial
 | k::r,m,h,a=>by
  unfold dZ at h;split at h
  ·rename_i v e b c;injection h with h;subst h
   simp only[lR,fz]at a;exact⟨b,a.1,po c a.2⟩
  grind
theorem qY{s s'}{ts f g}(h:s.pick ts f g=some s'):Sub s' s:=by
 unfold AS.pick at h;split at h
 ·rename_i t o r b c d;split at h
  ·rename_i a;injection h with h;subst h
   simp only[fz]at a;refine⟨oM b a.1.1,sO c a.1.2,po d a.2,fun id e=>?_⟩
   grind[pP]
  grind
 grind
section
variable{b:Cx}{Q:Exit→Act→World→Prop}{d:b6}{s:AS}
def lq(P:Program)(n k:Nat)(ts c f:ck)(d:b6)(e:Exit)(s:AS):Option (b6×Exit×AS) :=
 match fL P n k d e s with
 | some (ks',b,s')=>match s'.pick ts c f with|some a=>some (ks',b,a)|none=>none
 | none=>none
theorem q6{e a}{ks'}{s'} k ts i j(h:lq b.P b.n k ts i j d e s=some (ks',a,s'))(g:VE b Q ks' a s'):VE b Q d e s:=by
 unfold lq at h;split at h
 ·rename_i m l n c;split at h
  ·rename_i o f;simp only[h7]at h;obtain⟨rfl,rfl,rfl⟩:=h;exact ni _ _ _ _ c (o3 _ (qY f) g)
  grind
 grind
theorem ax.si{a:Act}{w:World}{ι:Env}(h:ax b s a w ι){k:Nat}{v d:AV}(g:look k s.t=some v)(f:v=d):ax b { s with t:=aD k d s.t } a w ι:=by
 subst f;refine⟨⟨h.hs.below,h.hs.old,h.hs.use,h.hs.own,h.hs.inj,h.hs.ko,h.hs.kr,h.hs.objs,h.hs.arrz,h.hs.pin⟩,h.dfr,h.n,fun j y c=>?_⟩;simp only[bz]at c;by_cases e:j=k
 ·subst e;rw[l2 rfl]at c;injection c with c;subst c;exact h.tmp j v g
 ·rw[o9 e]at c;exact h.tmp j y c
theorem tC{e} k{v f}{c}(l:look k s.t=some v)(g:v=f)(j:aD k f s.t=c)(h:VE b Q d e { s with t:=c }):VE b Q d e s:=fun a w ι i=>h a w ι (j ▸ i.si l g)
theorem vY{c}{l} k{v f}{e}(m:look k s.t=some v)(g:v=f)(j:aD k f s.t=e)(h:OT b Q d c l { s with t:=e }):OT b Q d c l s:=fun a w ι i=>h a w ι (j ▸ i.si m g)
def LP(b:Cx)(Q:Exit→Act→World→Prop)(d:b6)(c:Code)(m:Nat)(s:AS):Prop:=∀a w ι,ax b s a w ι→Code.roundsIn FF 0 b.P c (Kw b.P Q d) m a w
abbrev kl(b:Cx)(Q:Exit→Act→World→Prop)(d:b6)(c:Code)(m:Nat):aw:=.l (Code.roundsIn FF 0 b.P c (Kw b.P Q d) m)
theorem kA{c e:Code}(m:Nat)(f:e=.loop c)(h:LP b Q d c m s):VE b Q (.c e::d) .normal s:=by
 subst f;exact fun a w ι g=>wpIn_loop_rounds m (h a w ι g)
theorem bH{c}{m}(h:VE b Q (.c c::kl b Q d c m::d) .normal s):LP b Q d c (m+1) s:=fun a w ι e=>h a w ι e
theorem bM{c}{m}(h:LP b Q d c m s):VE b Q (kl b Q d c m::d) .normal s:=fun a w ι e=>h a w ι e
end
theorem aj{α:Type}{c}{x y:Option α}{r}(h:(if c=true then x else y)=some r):(c=true∧x=some r)∨(c=false∧y=some r):=by
 grind
def bn{α:Type}(c:Bool)(x:Option α):Option α:=match c with|true=>x|false=>none
theorem bg{α}{c}{x:Option α}{r}(h:bn c x=some r):c=true∧x=some r:=by
 cases c
 ·cases h
 ·exact⟨rfl,h⟩
theorem aq{α β:Type}{x}{k:α→Option β}{r}(h:x.bind k=some r):∃y,x=some y∧k y=some r:=by
 cases x with
 | none=>grind
 | some y=>grind
def ab(n:Int):Int:=IntKind.wrap .i64 n
theorem nO{α β:Type}(f:α→β)(L:List α) d{j}(h:j<L.length):(L.map f)[j]?=some (f (L.getD j d)):=by
 grind
def br(i:Int)(n:Nat):Bool:=decide (0≤i)&&decide (i<n)
theorem cw{i}{n}(h:br i n=true):0≤i∧i.toNat<n:=by
 grind[br]
section
variable{P:Program}{n:Nat}{s:AS}{o:Oper}{α:Type}[Inhabited α]
theorem vQ(enc b:α→bl)(L:List α)(i:Int)(T:TypeId)(x y:Operand)(d:Nat){sz:Nat}{e:TypeId}{kd:IntKind}(f:o.op=.indexAddr T x y)(g:o.dst=some d)(p:Nat.ble (d+1) n=true)(r:s.ev x=some (.sl (L.map enc)))(t:s.ev y=some (.int kd i))
  (k:fe P T=none) (q:cY P T=some (e,sz)) (l:br i L.length=true) (u:∀a,(enc a).length=sz) (m:∀a,enc a=b a):aH P n s o=some (s.put (some d) (.cptr (b (L.getD i.toNat default)))):=by
 obtain⟨h,j⟩:=cw l;have c:d<n:=f6 p;unfold aH;rw[l2 (by rw[g];simpa[cc]using c)];simp only[f,r,t,gj,ic,l2 h,k,q,nO enc L default j,g,l2 (u _)];rw[m]
theorem uR enc(L:List α) T x(d:Nat){e}(c:o.op=.call ⟨.builtin .len,#[x],#[T]⟩)(f:o.dst=some d)(b:Nat.ble (d+1) n=true)(h:s.ev x=some (.sl (L.map enc)))
  (g:cY P T=some e):aH P n s o=some (s.put (some d) (.int .i64 L.length)):=by
 have a:d<n:=f6 b
 grind[aH,cc,eL,js]
theorem uC(enc:α→bl)(L:List α)(T:TypeId)(x:Operand)(d:Nat){id sz:Nat}{e:TypeId×Nat}{a:TypeId}(f:o.op=.call ⟨.builtin .len,#[x],#[T]⟩)(g:o.dst=some d)(c:Nat.ble (d+1) n=true)(j:s.ev x=some (.ref id))(h:look id s.r=some ⟨a,sz,L.map enc⟩)
  (i:cY P T=some e):aH P n s o=some (s.put (some d) (.int .i64 L.length)):=by
 have b:d<n:=f6 c;unfold aH
 grind[cc,eL,js]
theorem yb(enc:α→bl)(L:List α)(i:Int)(T:TypeId)(x y:Operand)(d:Nat){id sz:Nat}{e f:TypeId}{kd:IntKind}(b:o.op=.indexAddr T x y)(c:o.dst=some d)(l:Nat.ble (d+1) n=true)(q:s.ev x=some (.ref id))(r:s.ev y=some (.int kd i))
  (m:look id s.r=some ⟨f,sz,L.map enc⟩) (j:fe P T=none) (p:cY P T=some (e,sz)) (k:br i L.length=true):aH P n s o=some (s.put (some d) (.eptr id sz i.toNat 0)):=by
 obtain⟨g,h⟩:=cw k;have a:d<n:=f6 l;unfold aH;rw[l2 (by rw[c];simpa[cc]using a)];simp only[b,q,r,gj,ic,l2 g,j,p,m,c,u6,h,and_self,wl]
theorem uM(enc b:α→bl)(L:List α)(T:TypeId)(x:Operand)(d:Nat){id sz j off:Nat}{i:TypeId}{v:AV}(f:id<TG)(e:o.op=.load T x)(g:o.dst=some d)(m:Nat.ble (d+1) n=true)(q:s.ev x=some (.eptr id sz j off))
  (p:look id s.r=some ⟨i,sz,L.map enc⟩) (l:j<L.length) (k:∀a,enc a=b a) (h:cT P T ((b (L.getD j default)).drop off)=some v):aH P n s o=some (s.put (some d) v):=by
 have c:d<n:=f6 m;rw[←k]at h;unfold aH;rw[l2 (by rw[g];simpa[cc]using c)];simp only[f,e,q,ep,AS.mem,p,wl,nO enc L default l,g,h]
theorem yt(enc b:α→bl)(L:List α)(new:α)(T:TypeId)(x y:Operand){id sz j off:Nat}{g:TypeId}{v:AV}{d:bl}(e:o.op=.store T x y)(h:o.dst=none)(t:s.ev x=some (.eptr id sz j off))(u:s.ev y=some v)
  (m:look id s.r=some ⟨g,sz,L.map enc⟩) (k:j<L.length) (q:dE v=some d) (w:aV P T=some d.length) (i:∀a,enc a=b a) (l:Nat.ble (off+d.length) (b (L.getD j default)).length=true) (p:bS [] d=true) (f:db off d (b (L.getD j default))=b new) :
  aH P n s o=some { s with r:=aD id ⟨g,sz,(L.set j new).map enc⟩ s.r }:=by
 have c:=f6 l;rw[←i]at c f;rw[←i]at f;unfold aH;rw[l2 (by rw[h];rfl)];simp only[e,h,t,u,fX,m,q,nO enc L default k,w,c,p,and_self,wl,f,List.map_set]
def fits(n bytes:Nat):Bool:=decide (n≤maxLen)&&decide (n*bytes≤140737488355328)
theorem vI{n b}(h:fits n b=true):n≤maxLen∧n*b≤140737488355328:=by grind[fits]
theorem uN(enc:α→bl)(M:List α){sz}(b:∀a,(enc a).length=sz):(M.map enc).all (fun e=>e.length == sz)=true:=by
 grind
theorem yh(enc:α→bl)(L M:List α)(T:TypeId)(x y:Operand)(d:Nat){id sz bytes:Nat}{c:TypeId}{new:List bl}{j:List dO}{i:List (Nat×bl)}(g:o.op=.call ⟨.builtin .append,#[x,y],#[T,T]⟩)(h:o.dst=some d)(v:Nat.ble (d+1) n=true)
  (A:s.ev x=some (.ref id)) (B:s.ev y=some (.sl new)) (b:new=M.map enc) (w:look id s.r=some ⟨c,sz,L.map enc⟩) (z:fr P T=some (c,sz,bytes)) (C:∀a,(enc a).length=sz) (q:fits (L.length+M.length) bytes=true) (f:s.u.contains (co id)=false)
  (m:bR id s.t=j) (p:c9 id s.o=i):aH P n s o=some { t:=aD d (.ref id) j,o:=i,r:=aD id ⟨c,sz,(L++M).map enc⟩ s.r,u:=s.u }:=by
 have e:d<n:=f6 v;obtain⟨k,l⟩:=vI q;subst b;unfold aH;rw[l2 (by rw[h];simpa[cc]using e)];simp only[g,h,A,B,wl,jy,z,eG,uN enc M C,w,f,u6,k,l,and_self,m,p,List.map_append]
theorem vK(T T':TypeId)(x y:Operand)(d:Nat){k:IntKind}{a b:Int}(f:o.op=.binOp .rem T x y T')(g:o.dst=some d)(i:Nat.ble (d+1) n=true)(j:s.ev x=some (.int k a))(l:s.ev y=some (.int k b))(h:(b != 0)=true):aH P n s o=some (s.put (some d) (.int k (a.tmod b))):=by
 have e:d<n:=f6 i;have c:¬ b=0:=by simpa using h
 unfold aH;rw[l2 (by rw[g];simpa[cc]using e)];simp only[f,j,l,iD,c,and_self,wl,g,not_false_eq_true]
theorem wi(T T':TypeId)(x y:Operand)(d:Nat){a b:ByteArray}(f:o.op=.binOp .add T x y T')(h:o.dst=some d)(e:Nat.ble (d+1) n=true)(i:s.ev x=some (.str a))(j:s.ev y=some (.str b))(g:fE a b=true):aH P n s o=some (s.put (some d) (.str (a++b))):=by
 have c:d<n:=f6 e;unfold aH
 grind[cc,iD,fg,nn]
end
section
variable{a:Cx}{Q:Exit→Act→World→Prop}{g:b6}{s:AS}
theorem zd{e} k{b c}(d:b=c)(f:look k s.t=some (.bool b))(h:VE a Q g e { s with t:=aD k (.bool c) s.t }):VE a Q g e s :=by grind[tC]
theorem w1{c}{l} k{b d}(e:b=d)(f:look k s.t=some (.bool b))(h:OT a Q g c l { s with t:=aD k (.bool d) s.t }):OT a Q g c l s :=by grind[vY]
def cC(s:AS)(o:Oper):Option (FuncId×bl) :=
 match o.op with
 | .call c=>match c.callee with
  | .value b=>match s.ev b,bJ s c.args.toList with
   | some (.fn f a),some l=>match bS [] l with
    | true=>some (f,l.map dA++a)
    | false=>none
   | _,_=>none
  | _=>none
 | _=>none
theorem pZ{c}{r} o(j:o.guard=none){f}{b}{V}(e:cC s o=some (f,b))(i:cc a.n o.dst=true)(d:bW a.P f=true)(h:aF a.P f b (fun v _=>v=V))(l:V.bu []=true)(k:OT a Q g c r (s.put o.dst V)):OT a Q g c (o::r) s:=by
 grind[cC,vL]
theorem qj{e:Array Oper}{l r:List Oper}(o:Oper){f:FuncId}{c:bl}{V:AV}(z:l=o::r)(m:bN e s o=true)(t:aF a.P f c (fun v _=>v=V))(h:bW a.P f=true)(q:cC s o=some (f,c))(i:(cc a.n o.dst&&V.bu [])=true)(k:OT a Q g e r (s.put o.dst V)):OT a Q g e l s:=by
 subst z;simp only[fz]at i;unfold bN at m;split at m
 ·rename_i n;exact pZ o n q i.1 h t i.2 k
 ·rename_i j b n;split at m
  ·rename_i v p;obtain⟨A,d,u,w,x⟩:=gp p;have y:v=b:=by cases v<;>cases b<;>simp at m⊢
   subst y;exact k9 n u w x (pZ { o with guard:=none } rfl q i.1 h t i.2 k)
  grind
end
section
variable{g:Cx}{Q:Exit→Act→World→Prop}{m:b6}{s:AS}
theorem oX{A:Array Oper}{r:List Oper}(o:Oper)(hg:o.guard=none){f:FuncId}{j:bl}{V:AV}(id d:Nat){ar:bw}(h:cC s o=some (f,j))(hd:cc g.n o.dst=true)(J:bW g.P f=true)
  (hc:aF g.P f j (fun v X=>v=V∧look id X.r=some ar)) (a0:V.bu []=false) (U:has s.u d=false) (C:∀(N:Nat→Prop) w ι x,Rel N w ι V x→∃y,ι id=some y)
  (k:OT g Q m A r (({ s with r:=aD d ar s.r,u:=d::s.u }:AS).put o.dst (V.cq id d))) (R:Nat.ble (id+1) TG=true):OT g Q m A (o::r) s:=by
 unfold cC at h;split at h
 ·rename_i c M;split at h
  ·rename_i fo B;split at h
   ·rename_i f' T l hf hl;split at h
    ·rename_i hu;injection h with h;injection h with Z e2;subst Z;subst e2
     intro a w ι t;refine A2 hg fun K hK=>?_;refine cL ?_;obtain⟨ys,O,H,I⟩:=jC t M B hf J;rw[O,kb];refine (hc (NN g.M ι) w _ (fun b n=>hZ t.hs n) (kw t hl hu H I)).mono ?_
     rintro e Y ⟨x,v,X,ι1,rfl,⟨rfl,p⟩,i,W⟩
     obtain⟨y,S⟩:=C _ _ _ _ W;obtain⟨P,G⟩:=t.hs.import i (f6 R) S p U;have L:=t.hs.free U;have h3:Rel (NN g.M (ext ι d y)) Y (ext ι d y) (v.cq id d) x:=W.cq G (fun z E=>by rw[S]at E;injection E with E;subst E;exact bA _ _ _);have D:ax g { s with r:=aD d ar s.r,u:=d::s.u } a Y (ext ι d y) :=
      t.world P rfl i.below.plain.size (fun b q n=>by
       rcases c8 n with n|n
       ·exact n
       ·rcases (i.own id b (by rw[S];exact n)).1 with F|F;exact absurd q (Nat.not_lt.2 F);exact F.elim) (fun b q _=>i.below.plain.block b q) (cz L y)
     exact hK _ _ (k _ _ _ (D.put (lS hd) h3))
    ·cases h
   ·cases h
  ·cases h
 ·cases h
theorem lP id:∀N w ι x,Rel N w ι (.ref id) x→∃y,ι id=some y:=by
 intro N w ι x h;cases h with|ref _ _ A n c h=>grind
theorem qz{id}{i:Nat}{b}(c:b[i]?=some (.ref id)):∀N w ι x,Rel N w ι (.tup b) x→∃y,ι id=some y:=by
 intro N w ι x h;cases h with
 | tup _ _ vs e d =>
  have a:i<vs.length:=by grind
  exact lP id N w ι _ (d i _ _ c (ez a))
theorem xO{h:Array Oper}{l r:List Oper}(o:Oper)(id a:Nat){f:FuncId}{c:bl}{V A:AV}{ar:bw}(J:l=o::r)(n:bN h s o=true)(C:aF g.P f c (fun v L=>v=V∧look id L.r=some ar))(i:bW g.P f=true)
  (e:∀(N:Nat→Prop) w ι x,Rel N w ι V x→∃y,ι id=some y) (B:cC s o=some (f,c)) (D:cc g.n o.dst=true) (p:V.bu []=false) (E:has s.u a=false) (K:V.cq id a=A)
  (k:OT g Q m h r (({ s with r:=aD a ar s.r,u:=a::s.u }:AS).put o.dst A)) (q:Nat.ble (id+1) TG=true:=by kernel_rfl):OT g Q m h l s:=by
 subst J;subst K;unfold bN at n;split at n
 ·rename_i t;exact oX o t id a B D i C p E e k q
 ·rename_i j b t;split at n
  ·rename_i v z;obtain⟨M,d,F,G,H⟩:=gp z;have I:v=b:=by cases v<;>cases b<;>simp at n⊢
   subst I;exact k9 t F G H (oX { o with guard:=none } rfl id a B D i C p E e k q)
  ·cases n
end
theorem aF.aO{P}{f}{a}{V g}{id}{ar}(r:aF P f a (fun v s=>v=V∧look id s.r=some ar))(t:V.aO id ar.l=g)(d:Nat.ble (id+1) TG=true:=by kernel_rfl):aF P f a (fun v _=>v=g):=fun M w xs o p =>
 (r M w xs o p).mono fun _ _ ⟨x,v,s,ι,k,⟨l,h⟩,j,m⟩=>by
  subst l;subst t;refine⟨x,v.aO id ar.l,s.aO id ar.l,dP ι id,k,rfl,j.aO (f6 d) h rfl,?_⟩;exact m.aO (fun b q=>iL b q) (fun i e=>eO _ e) (fun A n c e=>j.gT (f6 d) h A n c e _)
open Classical in
def ke(k:IntKind)(x:Int):bl:=[.int k x]
def w3(x:Bool):bl:=[.bool x]
def vo(x:ByteArray):bl:=[.str x]
def mH{α:Type}(f:α→bl)(x:List α):bl:=[.sl (x.map f)]
structure V4(α:Type) where
 a0:α
 a1:α
 a2:α
 a3:α
instance{α:Type}[Inhabited α]:Inhabited (V4 α):=⟨⟨default,default,default,default⟩⟩
def sN{α:Type}(f:α→bl)(x:V4 α):bl:=f x.a0++(f x.a1++(f x.a2++f x.a3))
end Go.Proofs.Ytkciiamllegclaa
namespace Go.Proofs.Ytkciiamllegclaa
set_option linter.all false
variable[ZX]
open Go.RowKit
variable[FM]
def gq:List Oper→List Tag→Nat→Bool
 | o::r,t::ts,k=>(t.bZ&&(match o.dst with|some d=>Nat.beq d k|none=>false))||gq r ts k
 | _,_,_=>false
theorem re:∀{l:List Oper} {ts:List Tag} {k:Nat},gq l ts k=true→∃(i:Nat) (o:Oper) (e:Tag),l[i]?=some o∧ts[i]?=some e∧e.bZ=true∧o.dst=some k
 | [],_,_,h=>by simp[gq]at h
 | _::_,[],_,h=>by simp[gq]at h
 | o::r,t::ts,k,h=>by
  simp only[gq,tl,fz]at h;rcases h with⟨j,f⟩|h
  ·cases g:o.dst with
   | none=>grind
   | some d =>
    rw[g]at f;have:=iN f;subst this;exact⟨0,o,t,rfl,rfl,j,g⟩
  ·obtain⟨i,m,e,a,b,c,d⟩:=re h;exact⟨i+1,m,e,by grind,by grind,c,d⟩
def eK(l:List Oper)(ts:List Tag):List dO→Bool
 | []=>true
 | p::r=>gq l ts p.1&&eK l ts r
theorem qT{l}{ts}:∀{b},eK l ts b=true→∀p∈b,∃(i:Nat) (o:Oper) (c:Tag),l[i]?=some o∧ts[i]?=some c∧c.bZ=true∧o.dst=some p.1
 | [],_,p,a=>by grind
 | q::r,h,p,a=>by
  simp only[eK,fz]at h;rcases Ac.1 a with rfl|a
  ·grind[re]
  ·exact qT h.2 p a
def dT{α:Type}(u:ck):List (Nat×α)→Bool
 | []=>true
 | (k,_)::r=>!has u k&&dT u r
theorem nJ{α}{u}:∀{l:List (Nat×α)},dT u l=true→fresh u l
 | [],_=>trivial
 | (k,x)::r,h=>by
  simp only[dT,fz,zG]at h;exact⟨h.1,nJ h.2⟩
theorem pB{P:Program}{n:Nat}{ops:Array Oper}{l:AS}(b:List Tag)(K:Nat)(Q:List dO)(y:List (Nat×bl))(rl:List (Nat×bw))(G:em)
  (F:eK ops.toList b Q=true) (N:dT l.u y=true) (E:dT l.u rl=true) (r:nth G 0=fc l Q y rl) (Y:cg P n l ops b K G ops.toList b):gu P n l ops b K (nth G):=by
 have hf:=nJ N;have M:=nJ E;have B:∀(i:Nat) (o:Oper) (t:Tag),ops[i]?=some o→b[i]?=some t→cv P n l ops b K G o t:=fun i o t s u=>rL Y i o t (by simpa using s) u;refine⟨fun i o m s u=>?_,fun i o lo k s u j c f=>ga (B i o _ s u) j c f,fun i o lo k s u j c f=>?_,fun i o lo k s u=>?_,fun i o lo k s u=>?_,fun i o lo k s u=>?_,fun id a q=>?_,fun id a q=>?_,fun id C q=>?_,fun id q=>?_,fun id C q=>?_,fun t v R=>?_⟩
 ·obtain⟨H,D|D|⟨s',L,D,g,z⟩⟩:=B i o _ s u
  ·exact⟨H,.inl D⟩
  ·exact⟨H,.inr ⟨_,D,rfl,rfl,rfl,fun t v h=>.inl h⟩⟩
  ·refine⟨H,.inr ⟨s',D,by rw[←g];rfl,by rw[←g];rfl,by rw[←g];rfl,fun t v h=>?_⟩⟩;rw[←g]at h;rcases fJ L s'.t t v h with⟨p,x,e⟩|h
   ·obtain⟨i0,o0,S,q1,q2,q3,q4,q5⟩:=rN (lp.1 z p x);exact .inr ⟨i0,o0,S,by simpa using q1,q2,q3,e ▸ q4,q5⟩
   ·exact .inl h
 ·have:=ga (B i o _ s u) j c f;exact⟨this.1,vm this.2⟩
 ·have g:=B i o _ s u;obtain⟨z,w⟩:=g;unfold pb at w;split at w
  ·rename_i T O;split at w
   ·rename_i d C J hz;exact⟨T,d,C,z,O,J,w.1,w.2.1,hz,fun j c f=>ga w.2.2 j c f⟩
   ·cases w
  ·cases w
 ·obtain⟨z,w,I⟩:=B i o _ s u;refine⟨fun j c f=>⟨ga w j c f,z⟩,fun d j J hj=>?_⟩;have:=ga I j (zW _) (by omega);unfold ox at this;rw[J]at this;exact this
 ·obtain⟨d,z,w,I,Z⟩:=B i o _ s u;exact⟨d,z,w,I,fun j c f=>ga Z j c f⟩
 ·rw[r]at q;rcases fJ rl l.r id a q with⟨p,x,rfl⟩|g
  ·exact .inr (nx M p x)
  ·exact .inl g
 ·rw[r]at q⊢;show has (rl.map (·.1)++(y.map (·.1)++l.u)) id=true∨_;have A:look id (fj rl l.r)=some a:=q;rcases fJ rl l.r id a A with⟨p,x,rfl⟩|g
  ·refine .inl (d7 ?_);simp only[Ar,jt,z3];exact .inl ⟨p,x,rfl⟩
  ·exact .inr g
 ·rw[r]at q;rcases fJ y l.o id C q with⟨p,x,rfl⟩|g
  ·exact .inr (nx hf p x)
  ·exact .inl g
 ·rw[r];show(rl.map (·.1)++(y.map (·.1)++l.u)).contains id=true;simp only[Ar,jt]at q⊢;exact .inr (.inr q)
 ·rw[r]at q⊢;show has (rl.map (·.1)++(y.map (·.1)++l.u)) id=true∨_;have A:look id (fj y l.o)=some C:=q;rcases fJ y l.o id C A with⟨p,x,rfl⟩|g
  ·refine .inl (d7 ?_);simp only[Ar,jt,z3];exact .inr (.inl ⟨p,x,rfl⟩)
  ·exact .inr g
 ·rw[r]at R;rcases fJ Q l.t t v R with⟨p,x,rfl⟩|g
  ·obtain⟨i,o,tg,U,V,W,X⟩:=qT F p x;exact .inl ⟨i,o,tg,by simpa using U,V,W,X⟩
  ·exact .inr g
theorem uK{b}{Q}{o}{id}{c}{ops}{f sK} a K l i rl g
  (q:c=.region id ops true) (s:b.P.follows .mixedOrders=true) (n:kg ops a K=true) (m:gg a K=true) (e:eK ops.toList a l=true) (k:dT f.u i=true) (d:dT f.u rl=true)
  (j:nth g 0=fc f l i rl) (p:cg b.P b.n f ops a K g ops.toList a) (r:nth g K=sK) (h:VE b Q o .normal sK):VE b Q (.c c::o) .normal f:=by
 subst q;have t:=vO n m;exact s5 (nth g) a K s t (ww n m) (pB a K l i rl g e k d j p) (r ▸ h)
theorem vG{e}{Q}{l}{id}{c}{ops}{b} a K i d rl k
  (n:c=.region id ops true) (p:e.P.follows .mixedOrders=true) (q:kg ops a K=true) (o:gg a K=true) (g:eK ops.toList a i=true) (j:dT b.u d=true) (f:dT b.u rl=true)
  (m:cg e.P e.n b ops a K (fc b i d rl::k) ops.toList a) (h:VE e Q l .normal (nth (fc b i d rl::k) K)):VE e Q (.c c::l) .normal b :=
 uK a K i d rl (fc b i d rl::k) n p q o g j f rfl m rfl h
section
variable{P:Program}{n:Nat}{i:AS}{a:Array Oper}{u:List Tag}{K:Nat}{g:em}
theorem yH{l r}{o}{t}{ts}(c:l=o::r)(h:cv P n i a u K g o t)(b:cg P n i a u K g r ts):cg P n i a u K g l (t::ts):=by
 subst c;exact⟨h,b⟩
theorem zm{l}(b:l=[]):cg P n i a u K g l []:=by subst b;trivial
theorem fV{lo}{p}:bT lo 0 p:=trivial
theorem dD{lo k}{p}(h:p lo)(a:bT (lo+1) k p):bT lo (k+1) p:=⟨h,a⟩
theorem ob{s}{o}(h:bN a s o=true):cM a s true o.guard:=by
 grind[bN,cM,gp]
def ku(a:Array Oper)(s:AS)(o:Oper):Bool:=match o.guard with
 | none=>false
 | some (j,b)=>match gO a s j with
  | some v=>(match v,b with|true,false=>true|false,true=>true|_,_=>false)
  | none=>kN a s j
theorem yB{s}{o}(h:ku a s o=true):cM a s false o.guard∧o.guard≠none:=by
 grind[ku,cM,gp,pw]
theorem sR{o:Oper}{m:Nat}(b:o.guard.isNone=true)(h:aH P n (nth g m) o=some (nth g (m+1))):cv P n i a u K g o (.s (m+1)):=⟨by rw[show o.guard=none by simpa using b];rfl,.inl h⟩
theorem fx{o}{lo k}(h:bT lo k fun j=>bN a (nth g j) o=true∧aH P n (nth g j) o=some (nth g j)):cv P n i a u K g o (.v lo k):=by
 revert lo
 induction k with
 | zero=>intro lo _;trivial
 | succ k b=>intro lo h;exact⟨⟨ob h.1.1,h.1.2⟩,b h.2⟩
theorem vX{o:Oper}{lo k:Nat}{f:FuncId}{e:bl}(V:AV)(y:aF P f e (fun v _=>v=V))(p:bW P f=true)(D:V.bu []=true)(d:Nat)(z:o.dst=some d)(q:Nat.ble (d+1) n=true)
  (h:bT lo k fun j=>bN a (nth g j) o=true∧cC (nth g j) o=some (f,e)∧look d (nth g j).t=some V):cv P n i a u K g o (.c lo k):=by
 show bT lo k _;revert lo
 induction k with
 | zero=>intro lo _;trivial
 | succ k E =>
  intro lo h;refine⟨⟨ob h.1.1,.inl ?_⟩,E h.2⟩;obtain⟨_,b,x⟩:=h.1;unfold cC at b;unfold lW;split at b
  ·rename_i c r;split at b
   ·rename_i G m;split at b
    ·rename_i F s l A B;split at b
     ·rename_i C;injection b with b;injection b with t w;subst t
      simp only[r,m,A,B,z,x];exact⟨f6 q,C,D,p,w ▸ y⟩
     ·cases b
    ·cases b
   ·cases b
  ·cases b
theorem kp{p q}(a:∀j,p j→q j):∀{k lo},bT lo k p→bT lo k q
 | 0,_,_=>trivial
 | _+1,_,h=>⟨a _ h.1,kp a h.2⟩
theorem tE{o:Oper}{lo k:Nat}{f:FuncId}{e:bl}(V:AV){id:Nat}{ar:bw}(d:Nat)(z:Nat.ble (id+1) TG=true)(F:aF P f e (fun v J=>v=V∧look id J.r=some ar))(r:bW P f=true)(q:∀(N:Nat→Prop) w ι x,Rel N w ι V x→∃y,ι id=some y)
  (G:o.dst=some d) (s:Nat.ble (d+1) n=true) (A:has i.u d=false)
  (h:bT lo k fun j=>bN a (nth g j) o=true∧cC (nth g j) o=some (f,e)∧look d (nth g j).t=some (V.cq id d)∧look d (nth g j).r=some ar∧look d (nth g j).o=none∧has (nth g j).u d=true):cv P n i a u K g o (.o lo k):=by
 refine⟨d,G,f6 s,A,kp (fun j B=>⟨ob B.1,?_⟩) h⟩;obtain⟨_,b,E⟩:=B;unfold cC at b;unfold lG;split at b
 ·rename_i c t;split at b
  ·rename_i M p;split at b
   ·rename_i L m l H I;split at b
    ·rename_i A;injection b with b;injection b with C D;subst C
     simp only[t,p];exact⟨_,m,l,V,id,ar,f6 z,H,I,A,r,D ▸ F,q,E⟩
    ·cases b
   ·cases b
  ·cases b
 ·cases b
theorem tv{o:Oper}{lo k:Nat}(m:o.guard.isSome=true)(h:bT lo k fun j=>ku a (nth g j) o=true)(f:bT 0 (K+1) fun j=>(match o.dst with|some d=>(match look d (nth g j).t with|none=>true|some (.tup [])=>Nat.ble (d+1) n|_=>false)|none=>true)=true):cv P n i a u K g o (.off lo k):=by
 refine⟨fun e=>(by grind),kp (fun j b=>(yB b).1) h,kp (fun j b=>?_) f⟩;unfold ox;cases l:o.dst with
 | none=>grind
 | some d =>
  rw[l]at b;simp only[]at b⊢;split at b
  ·grind
  ·rename_i c;exact .inr ⟨c,f6 b⟩
  grind
theorem dH{s}{o}{s'}(h:aH P n s o=some s')(a:s'=s):aH P n s o=some s:=by grind
theorem uc{s}{o}(d:Nat){e b}(a:e=b)(h:aH P n s o=some (s.put (some d) (.bool e)))(c:s.put (some d) (.bool b)=s):aH P n s o=some s:=by grind
end
end Go.Proofs.Ytkciiamllegclaa
namespace Go.Proofs.Ytkciiamllegclaa
set_option linter.all false
variable[ZX]
open Go.RowKit
variable[FM]
mutual
def AV.mv(id a:Nat):AV→AV
 | .ref i=>if i=id then .ref a else .ref i
 | .ptr i o=>if i=id then .any else .ptr i o
 | .pp i g o=>if i=id then .any else .pp i g o
 | .sit i g s p=>if i=id then .any else .sit i g s p
 | .adr g o=>.adr g o
 | .eptr i sz j o=>if i=id then .any else .eptr i sz j o
 | .sref i sz o m=>if i=id then .any else .sref i sz o m
 | .agg d=>.agg (dI id a d)
 | .tup d=>.tup (dI id a d)
 | .int k n=>.int k n
 | .bool b=>.bool b
 | .str s=>.str s
 | .nils=>.nils
 | .sl l=>.sl l
 | .nilm=>.nilm
 | .mref _ _=>.any
 | .omp m=>.omp m
 | .osl e sz l=>.osl e sz l
 | .vv x=>.vv x
 | .lk i x=>if i=id then .any else .lk i x
 | .fn f c=>.fn f c
 | .fno f c=>.fno f (dI id a c)
 | .nilf=>.nilf
 | .nilp=>.nilp
 | .cptr d=>.cptr d
 | .any=>.any
def dI(id a:Nat):bl→bl
 | []=>[]
 | c::r=>c.mv id a::dI id a r
end
def fO(id a:Nat):List dO→List dO
 | []=>[]
 | (k,v)::r=>(k,v.mv id a)::fO id a r
def fG(id a:Nat):List (Nat×bl)→List (Nat×bl)
 | []=>[]
 | (k,v)::r=>(k,dI id a v)::fG id a r
theorem iB{id a}:∀{l} {i:Nat} {x},(dI id a l)[i]?=some x→∃y,l[i]?=some y∧x=y.mv id a
 | [],i,x,h=>by grind[dI]
 | c::r,0,x,h=>by grind[dI]
 | c::r,i+1,x,h=>by simp only[AM]at h⊢;exact iB h
theorem jU{id a}:∀l,(dI id a l).length=l.length
 | []=>rfl
 | c::r=>by simp[dI,jU r]
theorem rp{id a}:∀{l} {k} {v},look k (fO id a l)=some v→∃u,look k l=some u∧v=u.mv id a
 | [],k,v,h=>by cases h
 | (j,x)::r,k,v,h=>by
  simp only[fO,look]at h⊢;split at h
  ·grind
  ·rename_i e;rw[o9 e];exact rp h
theorem mK{id a}:∀{l} {k} {v},look k (fG id a l)=some v→∃u,look k l=some u∧v=dI id a u
 | [],k,v,h=>by cases h
 | (j,x)::r,k,v,h=>by
  simp only[fG,look]at h⊢;split at h
  ·grind
  ·rename_i e;rw[o9 e];exact mK h
def dq(ι:Env)(id a:Nat):Env:=fun i=>if i=a then ι id else if i=id then none else ι i
theorem Rel.mv{N N':Nat→Prop}{w:World}{ι:Env}{v:AV}{x:Value}(h:Rel N w ι v x){id L:Nat}{ι':Env}(M:∀b,N' b→N b)(E:∀y,ι id=some y→ι' L=some y)(a:∀i y,i≠id→ι i=some y→ι' i=some y):Rel N' w ι' (v.mv id L) x:=by
 have Q:∀{e:Env} {v:AV} {x:Value},Rel N w e v x→Rel N' w e v x:=fun h=>h.mono (io _) (fun b _ z=>M b z) (fun _ _ _=>rfl) (fun _ _ h=>h)
 induction h with
 | int ι k n=>exact .int _ _ _
 | bool ι b=>exact .bool _ _
 | str ι s=>exact .str _ _
 | nils ι=>exact .nils _
 | nilm ι=>simp only[AV.mv];exact .nilm _
 | mref ι i q r v h a=>simp only[AV.mv];exact .any _ _ rfl
 | sl0 ι A c S=>exact .sl0 _ _ _ S
 | sl ι l b o c sz D W z I F P t H u=>simp only[AV.mv];exact .sl _ l b o c sz D W z (fun h=>I (M b h)) F P (fun j e U i x d=>Q (t j e U i x d)) H
 | fn ι f p ys C t u=>exact .fn _ f p ys C (fun i c y E a=>Q (t i c y E a))
 | fno ι f p ys C t u =>
  refine .fno _ _ _ ys (by rw[jU];exact C) (fun i x v d J=>?_);obtain⟨y,K,rfl⟩:=iB d;exact u i y v K J E a
 | nilf ι=>exact .nilf _
 | nilp ι=>exact .nilp _
 | any ι x h=>exact .any _ _ h
 | ptr ι i off g h =>
  simp only[AV.mv];split
  ·exact .any _ _ rfl
  ·rename_i e;exact .ptr _ _ _ _ (a _ _ e h)
 | adr ι g off=>simp only[AV.mv];exact .adr _ _ _
 | vv ι x h=>simp only[AV.mv];exact .vv _ _ h
 | lk ι i v x h G =>
  simp only[AV.mv];split
  ·exact .any _ _ G
  ·rename_i e;exact .lk _ _ _ _ (a _ _ e h) G
 | pp ι i g off h =>
  simp only[AV.mv];split
  ·exact .any _ _ rfl
  ·rename_i e;exact .pp _ _ _ _ (a _ _ e h)
 | sit ι i g s X h V I z =>
  simp only[AV.mv];split
  ·exact .any _ _ rfl
  ·rename_i e;exact .sit _ _ _ _ _ (a _ _ e h) V (fun h=>I (M g h)) z
 | eptr ι i sz j off g n c h =>
  simp only[AV.mv];split
  ·exact .any _ _ rfl
  ·rename_i e;exact .eptr _ _ _ _ _ _ n c (a _ _ e h)
 | sref ι i sz off m n c R A B h T =>
  simp only[AV.mv];split
  ·exact .any _ _ rfl
  ·rename_i e;exact .sref _ _ _ _ _ n c R A B (a _ _ e h) T
 | cptr ι O b o D z I F P t u=>simp only[AV.mv];exact .cptr _ O b o D z (fun h=>I (M b h)) F P (fun i x d=>Q (t i x d))
 | ref ι i A n c h =>
  simp only[AV.mv];split
  ·rename_i e;subst e;exact .ref _ _ _ _ _ (E _ h)
  ·rename_i e;exact .ref _ _ _ _ _ (a _ _ e h)
 | agg ι O vs C F t u =>
  refine .agg _ _ _ (by rw[jU];exact C) F (fun i x v d J=>?_);obtain⟨y,K,rfl⟩:=iB d;exact u i y v K J E a
 | tup ι O vs C t u =>
  refine .tup _ _ _ (by rw[jU];exact C) (fun i x v d J=>?_);obtain⟨y,K,rfl⟩:=iB d;exact u i y v K J E a
theorem ax.xX{J:Cx}{s:AS}{a:Act}{w:World}{ι:Env}(h:ax J s a w ι){id d:Nat}{ar:bw}(P:look id s.r=some ar)(Q:TG≤id→∀e∈ar.l,∀c∈e,c.rB=true)(U:has s.u d=false)(X:s.u.contains (co id)=false):
  ax J ⟨fO id d s.t,fG id d s.o,aD d ar (era id s.r),d::s.u⟩ a w (dq ι id d):=by
 have W:=h.hs.free U;have V:d≠id:=fun e=>by have:=h.hs.kr id ar P;rw[←e,U]at this;cases this
 have N:dq ι id d d=ι id:=by simp[dq]
 have G:∀i,i≠id→i≠d→dq ι id d i=ι i:=fun i a b=>by simp[dq,a,b]
 have O:dq ι id d id=none:=by simp[dq,Ne.symm V]
 have Z:∀y,ι id=some y→dq ι id d d=some y:=fun y n=>by rw[N];exact n
 have K:∀i y,i≠id→ι i=some y→dq ι id d i=some y:=fun i y f n=>by
  have:i≠d:=fun e=>by subst e;rw[W]at n;cases n
  rw[G i f this];exact n
 have z:∀i g,bq (dq ι id d i)=some g→∃j,bq (ι j)=some g∧(i=d∧j=id∨i≠d∧i≠id∧j=i):=fun i g p=>by
  by_cases l:i=d
  ·subst l;rw[N]at p;exact⟨id,p,.inl ⟨rfl,rfl⟩⟩
  ·by_cases o:i=id
   ·subst o;rw[O]at p;cases p
   ·rw[G i o l]at p;exact⟨i,p,.inr ⟨l,o,rfl⟩⟩
 have t:∀b,NN J.M (dq ι id d) b→NN J.M ι b:=fun b H=>by
  rcases H with H|⟨i,H⟩
  ·exact .inl H
  ·obtain⟨j,q,_⟩:=z i b H;exact .inr ⟨j,q⟩
 refine⟨⟨h.hs.below,h.hs.old,fun i y n=>?_,fun i g p=>?_,fun i i' g p R=>?_,fun i cs f=>?_,fun i a f=>?_,fun i cs f m=>?_,fun i a f m=>?_,fun i y m=>(by
  have e:i≠id:=fun e=>by subst e;rw[h.hs.np X]at m;cases m
  exact⟨K i y e (h.hs.pin i y m).1,kU (h.hs.pin i y m).2⟩)⟩,h.dfr,h.n,fun k v E=>?_⟩
 ·by_cases l:i=d
  ·subst l;exact fh _ _
  ·by_cases o:i=id
   ·subst o;rw[O]at n;cases n
   ·rw[G i o l]at n;exact dC (h.hs.use i y n)
 ·obtain⟨j,q,_⟩:=z i g p;exact h.hs.own j g q
 ·obtain⟨j,q,A⟩:=z i g p;obtain⟨j',S,B⟩:=z i' g R;have:=h.hs.inj j j' g q S;rcases A with⟨q1,q2⟩|⟨q1,q2,q3⟩<;>rcases B with⟨r1,r2⟩|⟨r1,r2,r3⟩<;>omega
 ·obtain⟨u,F,rfl⟩:=mK f;exact dC (h.hs.ko i u F)
 ·simp only[bz]at f;by_cases l:i=d
  ·subst l;exact fh _ _
  ·rw[o9 l,jA]at f;split at f
   ·cases f
   ·exact dC (h.hs.kr i a f)
 ·obtain⟨u,F,rfl⟩:=mK f;by_cases l:i=d
  ·subst l;have:=h.hs.ko i u F;rw[U]at this;cases this
  ·by_cases o:i=id
   ·subst o;rw[O]at m;cases m
   ·rw[G i o l]at m⊢;obtain⟨g,T,vs,A,B,C⟩:=h.hs.objs i u F m;refine⟨g,T,vs,A,B,by rw[jU];exact C.len,C.one,fun j x v D hv=>?_⟩;obtain⟨y,n,rfl⟩:=iB D;exact(C.rel j y v n hv).mv t Z K
 ·simp only[bz]at f;by_cases l:i=d
  ·subst l;rw[l2 rfl]at f;injection f with f;subst f
   rw[N]at m⊢;obtain⟨v,xs,A,B,C,L,M⟩:=h.hs.arrz id ar P m;refine⟨v,xs,A,B,C,L,fun j e q k c E=>?_⟩;obtain⟨x,D,I⟩:=M j e q k c E;exact⟨x,D,.inl ((I.zb (fun ht=>Q ht e (h6 q) c (h6 E))).mono (io _) (fun b _ z=>t b z) (fun _ _ _=>rfl) (fun _ _ h=>h))⟩
  ·rw[o9 l,jA]at f;split at f
   ·cases f
   ·rename_i o;rw[G i o l]at m⊢;obtain⟨v,xs,A,B,C,L,M⟩:=h.hs.arrz i a f m;refine⟨v,xs,A,B,C,L,fun j e q k c E=>?_⟩;obtain⟨x,D,I⟩:=M j e q k c E;exact⟨x,D,I.mono (io _) (fun b _ z=>t b z) (fun _ _ _=>rfl) (fun r Y=>K _ _ (h.hs.qg P Y) Y) (fun _ _=>rfl) (fun h=>h)⟩
 ·obtain⟨u,F,rfl⟩:=rp E;obtain⟨x,D,I⟩:=h.tmp k u F;exact⟨x,D,I.mv t Z K⟩
theorem ax.mv{d}{s}{a}{w}{ι}(h:ax d s a w ι){id b}{ar}(g:id<TG)(e:look id s.r=some ar)(f:has s.u b=false)(c:s.u.contains (co id)=false):
  ax d ⟨fO id b s.t,fG id b s.o,aD b ar (era id s.r),b::s.u⟩ a w (dq ι id b) :=
 h.xX e (fun h=>by omega) f c
theorem wR{f}{Q}{g}{s}{e} id b{ar}(d:id<TG)(i:look id s.r=some ar)(j:has s.u b=false)(c:s.u.contains (co id)=false)(h:VE f Q g e ⟨fO id b s.t,fG id b s.o,aD b ar (era id s.r),b::s.u⟩):VE f Q g e s:=fun a w ι k=>h a w _ (k.mv d i j c)
theorem jH{id}{i:Nat}{b}(c:b[i]?=some (.ref id)):∀N w ι x,Rel N w ι (.agg b) x→∃y,ι id=some y:=by
 intro N w ι x h;cases h with
 | agg _ _ vs e _ d =>
  have a:i<vs.length:=by grind
  exact lP id N w ι _ (d i _ _ c (ez a))
theorem xe{id}{i j:Nat}{b c}(d:b[i]?=some (.agg c))(e:c[j]?=some (.ref id)):∀N w ι x,Rel N w ι (.tup b) x→∃y,ι id=some y:=by
 intro N w ι x h;cases h with
 | tup _ _ vs g f =>
  have a:i<vs.length:=by grind
  exact jH e N w ι _ (f i _ _ d (ez a))
end Go.Proofs.Ytkciiamllegclaa
namespace Go.Proofs.Ytkciiamllegclaa
set_option linter.all false
variable[ZX]
open Go.ChangeShapes Go.WideShapes Go.ChangeAt Go.RowKit
def fb(P:Program)(t:TypeId):Bool:=match P.underlying t with
 | some (.struct _)|some (.array _ _)=>true
 | _=>false
def fI(P:Program)(t:TypeId)(a:AV):Prop:=if fb P t=true then ∃b,a=.agg b∧bc P t b else bc P t [a]
def mr(P:Program):List TypeId→bl→Prop
 | [],[]=>True
 | t::ts,a::as=>fI P t a∧mr P ts as
 | _,_=>False
section
variable{H:Type}{enc:TypeId×Value→H}{P:Program}{w:World}{ts:List TypeId}{base:Nat}
theorem uX{t:TypeId}(c:gt P ts t=true)(b:fb P t=false){e:Array Value}(h:Value.okWide P w .any base t (.agg e)):False:=by
 unfold gt at c;unfold fb at b;cases a:P.underlying t with
 | none=>grind
 | some d =>
  rw[a]at c b;cases d<;>simp at c b
  ·have:=okWide_bool a h;grind
  ·have:=okWide_int a h;grind
  ·have:=okWide_string a h;grind
  ·have:=okWide_slice a h;grind
theorem sy[NZ](k:rF P ts=true):∀(ps:List TypeId) (vs:b5) (x:List (DataW H)) (q:List MemPlace),(∀t∈ps,ts.contains t=true)→DataW.TrodAll enc P w 0 (fun _=>true) true ps vs x q →
  (∀(j:Nat) t v,ps[j]?=some t→vs[j]?=some v→Value.okWide P w .any base t v)→(DataW.weightsEach P ps x).all (· ≤ reachBytes)=true →
  ∃as,mr P ps as∧as.length=vs.length∧∀(i:Nat) (a:AV) (v:Value),as[i]?=some a→vs[i]?=some v→Rel cB w aG a v
 | [],[],[],_,_,_,_,_=>⟨[],trivial,rfl,fun i a v h _=>by simp at h⟩
 | [],_::_,_,_,_,h,_,_=>h.elim
 | [],[],_::_,_,_,h,_,_=>h.elim
 | _::_,[],_,_,_,h,_,_=>h.elim
 | _::_,_::_,[],_,_,h,_,_=>h.elim
 | t::ps,v::vs,d::x,q,F,h,s,n=>by
  simp only[DataW.weightsEach,AA,fz]at n;obtain⟨p,T,G,R,rfl⟩:=h;obtain⟨as,A,B,M⟩:=sy k ps vs x T (fun U S=>F U (Ae _ S)) R (fun j t v A B=>s (j+1) t v (by simpa using A) (by simpa using B)) n.2;obtain⟨r,Q⟩:=G;obtain⟨e,L,y⟩:=y4 k r t _ _ (F t u2) Q n.1;have u:=s 0 t v rfl rfl;have J:gt P ts t=true:=by
   have:=lp.1 k t (by have:=F t u2;simpa using this);exact this
  have o:∀a,fI P t a→Rel cB w aG a v→∃as,mr P (t::ps) as∧as.length=(v::vs).length∧∀(i:Nat) (a:AV) (z:Value),as[i]?=some a→(v::vs)[i]?=some z→Rel cB w aG a z:=fun a O I=>by
   refine⟨a::as,⟨O,A⟩,by simp[B],fun i b z C m=>?_⟩;cases i with
   | zero=>simp at C m;subst C;subst m;exact I
   | succ i=>exact M i b z (by simpa using C) (by simpa using m)
  by_cases c:fb P t=true
  ·have:∃e,v=.agg e:=by
    unfold Value.okWide at u;unfold fb at c;split at u
    ·obtain⟨e,g,_⟩:=u;exact⟨e,g⟩
    ·obtain⟨e,g,_⟩:=u;exact⟨e,g⟩
    ·rename_i D E;split at c
     ·rename_i f K;exact(D f K).elim
     ·rename_i a b K;exact(E a b K).elim
     ·cases c
   obtain⟨l,rfl⟩:=this;refine o (.agg e) (by unfold fI;rw[l2 c];exact⟨e,rfl,L⟩) ?_;have:=Rel.agg (N:=cB) (w:=w) aG e l.toList y.len y.one y.rel;simpa using this
  ·obtain⟨l,rfl⟩|⟨a,rfl,I⟩:=we y
   ·exact(uX J (by simpa using c) u).elim
   ·exact o a (by unfold fI;rw[o9 c];exact L) I
end
def mb:AV→Bool
 | .int _ _=>true
 | .bool _=>true
 | .str _=>true
 | _=>false
def ls(p:Bool):AV→Bool
 | .sl l=>(p||!l.isEmpty)&&l.all fun e=>e.length != aE&&e.all mb
 | v=>mb v
theorem up{z1 z2:ZX}{N:Nat→Prop}{w:World}{ι:Env}{a:AV}{v:Value}(h : @Rel z1 N w ι a v)(b:mb a=true): @Rel z2 N w ι a v:=by
 cases h<;>first|exact .int _ _ _|exact .bool _ _|exact .str _ _|cases b
theorem uY{z1 z2:ZX}{N:Nat→Prop}{w:World}{ι:Env}{a:AV}{v:Value}(h : @Rel z1 N w ι a v)(d:ls z2.p a=true): @Rel z2 N w ι a v:=by
 cases h with
 | sl0 _ A c B =>
  refine .sl0 _ _ _ (.inl ?_);simpa[ls]using d
 | sl _ l b o c sz k p q u g s z f =>
  simp only[ls,fz,tl,lp,bne_iff_ne]at d;refine .sl _ l b o c sz k p q u g s (fun j e m i x n=>up (z j e m i x n) ((d.2 e (h6 m)).2 x (h6 n))) ⟨f.1,?_⟩;rcases d.1 with y|t
  ·exact .inl y
  ·cases l with
   | nil=>simp at t
   | cons e r =>
    refine .other (by simp) fun h=>?_;have g:=(d.2 e u2).1;rw[p e u2]at g;exact g h
 | _=>first|exact .int _ _ _|exact .bool _ _|exact .str _ _|cases d
theorem qU{H}{enc:TypeId×Value→H}{P}{w}{b}{i}{c}:∀ps vs a q,DataW.TrodAll enc P w b i c ps vs a q→a.length=ps.length
 | [],[],[],_,_=>rfl
 | [],_::_,_,_,h=>h.elim
 | [],[],_::_,_,h=>h.elim
 | _::_,[],_,_,h=>h.elim
 | _::_,_::_,[],_,h=>h.elim
 | t::ps,v::vs,d::a,q,h=>by
  obtain⟨p,g,e,f,rfl⟩:=h;simp[qU ps vs a g f]
theorem bc.strs{P:Program}{t:TypeId}{m:bl}(h:bc P t m):∀s:ByteArray,AV.str s∈m→s.size≤reachBytes:=by
 induction h with
 | bool t b h=>intro s a;simp at a
 | int t k n h v=>intro s a;simp at a
 | str t x h j=>intro s a;simp at a;subst a;exact j
 | sl t e l h o w f g=>intro s a;simp at a
 | struct t p d h o u g =>
  intro s a;obtain⟨c,f,a⟩:=List.mem_flatten.1 a;obtain⟨i,r,rfl⟩:=zI.1 f;have q:=hM (xs:=p) (i:=i) (by omega);exact g i _ _ q (ez r) s a
 | array t e n d h o u g =>
  intro s a;obtain⟨c,f,a⟩:=List.mem_flatten.1 a;exact g c f s a
theorem xw{P:Program}{f:FuncId}{as:bl}(h:aF P f as (fun v _=>v=.bool true)){W:World}{xs:b5}(n:as.length=xs.length)(l:∀(i:Nat) (a:AV) (v:Value),as[i]?=some a→xs[i]?=some v→Rel cB W aG a v):
  Calls P f xs.toArray W fun e c=>e=.returned (.bool true)∧Below W.heap.size W c:=by
 refine (h cB W xs.toArray (fun b g=>g.elim) ⟨by grind,fun i v y d m=>l i v y d (by grind)⟩).mono ?_
 rintro e o ⟨x,v,s,ι,rfl,rfl,k,j⟩
 cases j;exact⟨rfl,k.below.plain⟩
theorem bd{α:Type}{l:List α}{n}(h:l.length=n+1):∃a r,l=a::r∧r.length=n:=by
 cases l with
 | nil=>grind
 | cons a r=>grind
theorem oL{α:Type}{p:bl→α→Prop}:∀{l:List bl},(∀c∈l,∃x,p c x)→∃L:List α,l.length=L.length∧∀(j:Nat) c x,l[j]?=some c→L[j]?=some x→p c x
 | [],_=>⟨[],rfl,fun j c x h _=>by grind⟩
 | c::r,h=>by
  obtain⟨x,g⟩:=h c u2;obtain⟨L,e,f⟩:=oL (l:=r) (fun c a=>h c (by grind));refine⟨x::L,by grind,fun j d i a b=>?_⟩
  grind
theorem tu{α:Type}{e:α→bl}{l}(h:∀c∈l,∃x,c=e x):∃L:List α,l=L.map e:=by
 obtain⟨L,a,b⟩:=oL h;refine⟨L,AI fun j=>?_⟩
 grind
section
variable{H:Type}{enc:TypeId×Value→H}{P:Program}
theorem rq(i:laidOutB P=true){W f}(g:Below W.heap.size W f):∀ts vs c ps,
  (∀t∈ts,P.readableRec t=true∧t<P.types.size)→(∀x∈ps,x.block<W.heap.size)→DataW.TrodAll enc P W 0 (fun _=>true) true ts vs c ps →
  DataW.TrodAll enc P f 0 (fun b=>decide (b<W.heap.size)) true ts vs c ps
 | [],[],[],ps,_,_,h=>h
 | [],_::_,_,_,_,_,h=>h.elim
 | [],[],_::_,_,_,_,h=>h.elim
 | _::_,[],_,_,_,_,h=>h.elim
 | _::_,_::_,[],_,_,_,h=>h.elim
 | t::ts,v::vs,d::c,ps,e,a,h=>by
  obtain⟨p,q,j,k,rfl⟩:=h;refine⟨p,q,?_,rq i g ts vs c q (fun m n=>e m (by grind)) (fun x l=>a x (by grind)) k,rfl⟩;exact Below.trod i (e t u2).1 (e t u2).2 j g (fun x l=>a x (by grind))
theorem xW{f:Func}{s:ChangeSpec}{b fresh d:Bool}{W m:World}{c:Array Value}{e:List (DataW H)}{a:List MemPlace}{tb:TypeId}
  (r:laidOutB P=true) (i:s.vars=[]) (k:f.resultTypes = #[tb]) (l:P.underlying tb=some .bool) (j:(s.fn H e).results=[.lit (.bool true)]) (g:(s.fn H e).args=e) (w:(s.fn H e).vars=[])
  (v:∀t∈f.params.toList,P.readableRec t=true∧t<P.types.size)
  (n:DataW.Whole enc P f.params.toList s.vars b W c.toList e [] a) (q:DataW.TrodAll enc P W 0 (fun _=>true) true f.params.toList c.toList e a) (o:Below W.heap.size W m) :
  s.post enc P f b fresh d false W c (.bool true) m:=by
 refine⟨e,[],a,[],a,[],n,?_,?_,?_,o.frame _,fun h=>by grind⟩
 ·rw[z9,j,k];exact trodAll_mk1 (shut_bool l true)
 ·rw[z9,g];exact rq r o _ _ _ _ v (fun p u=>n.lt p u) q
 ·rw[z9,w,i];rfl
end
end Go.Proofs.Ytkciiamllegclaa
namespace Go.Proofs.Ytkciiamllegclaa
set_option linter.all false
variable[ZX]
open Go.RowKit
variable[FM]
def keys{α:Type}:List (Nat×α)→ck
 | []=>[]
 | (k,_)::r=>k::keys r
def cS(P:Program)(n k:Nat)(a:b6)(e:Exit)(s:AS):AS:=match fL P n k a e s with
 | some (_,_,s')=>s'
 | none=>s
def cQ(P:Program)(n k:Nat)(b:b6)(e:Exit)(s:AS):Option (b6×Exit):=match fL P n k b e s with
 | some (ks',a,_)=>some (ks',a)
 | none=>none
def qN(s:AS)(ts a b:ck):AS:=match s.pick ts a b with|some s'=>s'|none=>s
def oQ(s:AS)(ts a b:ck):Bool:=match s.pick ts a b with|some _=>true|none=>false
def hP(P:Program)(n:Nat)(a:Array Oper)(k:Nat)(l:List Oper)(s:AS):AS:=match eM P n a k l s with
 | some (_,s')=>s'
 | none=>s
def gE(P:Program)(n:Nat)(a:Array Oper)(k:Nat)(l:List Oper)(s:AS):Option (List Oper):=match eM P n a k l s with
 | some (l',_)=>some l'
 | none=>none
def mu(s:AS):List (AS→AS)→em
 | []=>[]
 | g::r=>g s::mu (g s) r
def pH(k:Nat)(b:Bool)(s:AS):AS:={ s with t:=aD k (.bool b) s.t }
def uH(a:Nat)(ar:bw)(s:AS):AS:={ s with r:=aD a ar s.r,u:=a::s.u }
def ly(c:AS)(b:List dO)(a:List (Nat×bl))(rl:List (Nat×bw))(d:List (AS→AS)):em:=fc c b a rl::mu (fc c b a rl) d
def cZ(c:AS)(b:List dO)(a:List (Nat×bl))(rl:List (Nat×bw))(d:List (AS→AS))(K:Nat):AS:=nth (ly c b a rl d) K
def n8(f:Func)(p:ck):Bool:=match cat f p with|.region _ _ false=>true|_=>false
section
variable{a:Cx}{Q:Exit→Act→World→Prop}{d ks':b6}{e t:Exit}{s s':AS}{f:Func}{p:ck}{c:Array Oper}{i:Nat}
theorem ae k(b:VE a Q ks' t s')(h:lq a.P a.n k (keys s'.t) (keys s'.o) (keys s'.r) d e s=some (ks',t,s'):=by kernel_rfl):VE a Q d e s:=q6 k _ _ _ h b
theorem cj k s'(b:VE a Q ks' .normal s')(h:lq a.P a.n k (keys s'.t) (keys s'.o) (keys s'.r) d e s=some (ks',.normal,s'):=by kernel_rfl):VE a Q d e s:=q6 k _ _ _ h b
theorem cO k(b:VE a Q ks' .normal (cS a.P a.n k d e s))(h:cQ a.P a.n k d e s=some (ks',.normal):=by kernel_rfl):VE a Q d e s:=by
 grind[cQ,ni,cS]
theorem aL k(b:VE a Q [] .ret (cS a.P a.n k d e s))(h:cQ a.P a.n k d e s=some ([],.ret):=by kernel_rfl):VE a Q d e s:=by
 grind[cQ,ni,cS]
theorem ca ts f g(b:VE a Q d e (qN s ts f g))(h:oQ s ts f g=true:=by kernel_rfl):VE a Q d e s:=by
 unfold oQ at h;split at h
 ·rename_i i c;unfold qN at b;rw[c]at b;exact o3 _ (qY c) b
 grind
theorem am(n:Nat)(g:OT a Q d (bI f p) (aP f p n) (hP a.P a.n (bI f p) n (aP f p 0) s))(h:n8 f p=true:=by kernel_rfl)(e:gE a.P a.n (bI f p) n (aP f p 0) s=some (aP f p n):=by kernel_rfl):VE a Q (.c (cat f p)::d) .normal s:=by
 have i:aP f p 0=(bI f p).toList:=by simp[aP]
 cases c:cat f p with
 | region id ops b =>
  cases b with
  | true=>unfold n8 at h;rw[c]at h;cases h
  | false =>
   have j:bI f p=ops:=by unfold bI;rw[c];rfl
   grind[gE,hP,rD,jF]
 | _=>grind[n8]
theorem aB j k(e:OT a Q d c (aP f p j) (hP a.P a.n c k (aP f p i) s))(b:gE a.P a.n c k (aP f p i) s=some (aP f p j):=by kernel_rfl):OT a Q d c (aP f p i) s:=by
 grind[gE,hP,jF]
theorem ac(e:VE a Q d .normal (hP a.P a.n c 10000 (aP f p i) s))(b:gE a.P a.n c 10000 (aP f p i) s=some []:=by kernel_rfl):OT a Q d c (aP f p i) s:=by
 grind[gE,hP,jF,qK]
theorem aM(h:aH a.P a.n s (bh f p i)=some s')(k:OT a Q d c (aP f p (i+1)) s')(e:aP f p i=bh f p i::aP f p (i+1):=by kernel_rfl)(b:bN c s (bh f p i)=true:=by kernel_rfl):OT a Q d c (aP f p i) s:=xj _ e (te b h) k
theorem ah k{b c}(f:b=c)(h:VE a Q d e (pH k c s))(g:look k s.t=some (.bool b):=by kernel_rfl):VE a Q d e s:=zd k f g h
theorem ao{l} k{b e}(f:b=e)(h:OT a Q d c l (pH k e s))(g:look k s.t=some (.bool b):=by kernel_rfl):OT a Q d c l s:=w1 k f g h
theorem ay{g}{b}{V}(j:aF a.P g b (fun v _=>v=V))(k:OT a Q d c (aP f p (i+1)) (s.put (bh f p i).dst V))(m:aP f p i=bh f p i::aP f p (i+1):=by kernel_rfl)(l:bN c s (bh f p i)=true:=by kernel_rfl)(e:bW a.P g=true:=by kernel_rfl)
  (h:cC s (bh f p i)=some (g,b):=by kernel_rfl) (n:(cc a.n (bh f p i).dst&&V.bu [])=true:=by kernel_rfl):OT a Q d c (aP f p i) s :=by grind[qj]
theorem yC{g}{b}{V}(h:bW a.P g=true∧aF a.P g b (fun v _=>v=V))(k:OT a Q d c (aP f p (i+1)) (s.put (bh f p i).dst V))(l:aP f p i=bh f p i::aP f p (i+1):=by kernel_rfl)(j:bN c s (bh f p i)=true:=by kernel_rfl)
  (e:cC s (bh f p i)=some (g,b):=by kernel_rfl) (m:(cc a.n (bh f p i).dst&&V.bu [])=true:=by kernel_rfl):OT a Q d c (aP f p i) s :=by grind[qj]
theorem fy b{id}{g}{e}{V}{ar}(o:aF a.P g e (fun v z=>v=V∧look id z.r=some ar))(h:∀(N:Nat→Prop) w ι x,Rel N w ι V x→∃y,ι id=some y)
  (k:OT a Q d c (aP f p (i+1)) ((uH b ar s).put (bh f p i).dst (V.cq id b))) (t:aP f p i=bh f p i::aP f p (i+1):=by kernel_rfl) (r:bN c s (bh f p i)=true:=by kernel_rfl) (j:bW a.P g=true:=by kernel_rfl)
  (n:cC s (bh f p i)=some (g,e):=by kernel_rfl) (q:cc a.n (bh f p i).dst=true:=by kernel_rfl) (l:V.bu []=false:=by kernel_rfl) (u:has s.u b=false:=by kernel_rfl) (m:Nat.ble (id+1) TG=true:=by kernel_rfl):OT a Q d c (aP f p i) s:=xO _ id b t r o j h n q l u rfl k m
theorem dK{f}{p}{q} m(h:LP a Q d (cat f q) m s)(b:cat f p=.loop (cat f q):=by kernel_rfl):VE a Q (.c (cat f p)::d) .normal s:=kA m b h
def lK(P:Program)(n:Nat)(c:Array Oper)(a:em)(o:Oper):Nat→Nat→List (Bool×Option AS)
 | _,0=>[]
 | lo,k+1=>(bN c (nth a lo) o,aH P n (nth a lo) o)::lK P n c a o (lo+1) k
def kR(a:em):Nat→Nat→List (Bool×Option AS)
 | _,0=>[]
 | lo,k+1=>(true,some (nth a lo))::kR a (lo+1) k
def gr(P:Program)(n:Nat)(c:Array Oper)(a:em):List Oper→List Tag→List (List (Bool×Option AS))
 | o::r,.v lo k::ts=>lK P n c a o lo k::gr P n c a r ts
 | _,_=>[]
def gf(a:em):List Tag→List (List (Bool×Option AS))
 | []=>[]
 | .v lo k::ts=>kR a lo k::gf a ts
 | _::ts=>[]::gf a ts
end
section
variable{P:Program}{n:Nat}{c:AS}{a:Array Oper}{d:List Tag}{K:Nat}{b:em}{f:Func}{p:ck}{i:Nat}
theorem sk{o}:∀{k lo},lK P n a b o lo k=kR b lo k→bT lo k fun j=>bN a (nth b j) o=true∧aH P n (nth b j) o=some (nth b j)
 | 0,_,_=>trivial
 | k+1,lo,h=>by
  simp only[lK,kR,Aa,nw]at h;exact⟨h.1,sk h.2⟩
theorem sd:∀{ts:List Tag} {l:List Oper} {e},gr P n a b l ts=gf b ts→cg P n c a d K b (l.drop ts.length) e→cg P n c a d K b l (ts++e)
 | [],l,e,_,h=>by grind
 | t::ts,[],e,h,_=>by cases t<;>simp[gr,gf]at h
 | t::ts,o::r,e,h,f=>by
  cases t with
  | v lo k =>
   simp only[gr,gf,Aa]at h;exact⟨fx (sk h.1),sd h.2 (by grind)⟩
  | _=>grind[gr,gf]
theorem aN ts{e}(g:cg P n c a d K b (aP f p (i+ts.length)) e)(h:gr P n a b (aP f p i) ts=gf b ts:=by kernel_rfl):cg P n c a d K b (aP f p i) (ts++e):=by
 refine sd h ?_
 simp_all[aP]
theorem av{t}{ts}(h:cv P n c a d K b (bh f p i) t)(e:cg P n c a d K b (aP f p (i+1)) ts)(g:aP f p i=bh f p i::aP f p (i+1):=by kernel_rfl):cg P n c a d K b (aP f p i) (t::ts):=yH g h e
theorem cJ(e:aP f p i=[]:=by kernel_rfl):cg P n c a d K b (aP f p i) []:=zm e
def bv(P:Program)(n:Nat)(f:Func)(p:ck)(i:Nat)(s:AS):AS:=match aH P n s (bh f p i) with|some s'=>s'|none=>s
def gU(f:Func)(p:ck):Bool:=match cat f p with|.region _ _ true=>true|_=>false
end
theorem yP{P:Program}{n:Nat}{b:AS}{a:Array Oper}{c:List Tag}{K:Nat}{d:em}{l:List Oper}:cg P n b a c K d l []:=by cases l<;>trivial
theorem cI{g:Cx}{Q:Exit→Act→World→Prop}{r:b6}{f:Func}{p:ck}{d:AS}{a:List Tag}(K:Nat)(k:List dO)(e:List (Nat×bl))(rl:List (Nat×bw))(o:List (AS→AS))
  (l:cg g.P g.n d (bI f p) a K (ly d k e rl o) (aP f p 0) a) (h:VE g Q r .normal (cZ d k e rl o K))
  (m:gU f p=true:=by kernel_rfl) (u:g.P.follows .mixedOrders=true:=by kernel_rfl) (q:kg (bI f p) a K=true:=by kernel_rfl) (t:gg a K=true:=by kernel_rfl) (c:eK (aP f p 0) a k=true:=by kernel_rfl) (n:dT d.u e=true:=by kernel_rfl) (j:dT d.u rl=true:=by kernel_rfl):VE g Q (.c (cat f p)::r) .normal d:=by
 have s:aP f p 0=(bI f p).toList:=by simp[aP]
 cases i:cat f p with
 | region id ops b =>
  cases b with
  | false=>unfold gU at m;rw[i]at m;cases m
  | true =>
   have v:bI f p=ops:=by unfold bI;rw[i];rfl
   rw[s]at l c;rw[v]at l c q;exact vG (id:=id) a K k e rl (mu (fc d k e rl) o) rfl u q t c n j l h
 | _=>grind[gU]
end Go.Proofs.Ytkciiamllegclaa
namespace Go.Proofs.Ytkciiamllegclaa
set_option linter.all false
variable[ZX]
open Go.RowKit
variable[FM]
def qE(id:Nat)(ar:bw)(s:AS):AS:={ s with r:=aD id ar s.r }
def kH(d id:Nat)(ar:bw)(s:AS):AS:={ t:=aD d (.ref id) (bR id s.t),o:=c9 id s.o,r:=aD id ar s.r,u:=s.u }
def uO(k d:Nat)(ar:bw)(s:AS):AS:=⟨aD k (.ref d) s.t,s.o,aD d ar s.r,d::s.u⟩
section
variable{P:Program}{n:Nat}{s:AS}{o:Oper}{α:Type}[Inhabited α]
def eD(n:Nat)(o:Oper):Bool:=match o.dst with|some d=>Nat.ble (d+1) n|none=>false
theorem gy(h:eD n o=true):∃d,o.dst=some d∧Nat.ble (d+1) n=true:=by
 grind[eD]
def ss(P:Program)(n:Nat)(s:AS)(o:Oper):Option (List bl×Int×Nat):=match eD n o,o.op with
 | true,.indexAddr T x y=>match s.ev x,s.ev y,fe P T,cY P T with
  | some (.sl l),some (.int _ i),none,some (_,sz)=>some (l,i,sz)
  | _,_,_,_=>none
 | _,_=>none
theorem bV(enc b:α→bl){L:List α}{i:Int}{sz:Nat}(l:br i L.length=true)(q:∀a,(enc a).length=sz)(m:∀a,enc a=b a)(h:ss P n s o=some (L.map enc,i,sz):=by kernel_rfl):aH P n s o=some (s.put o.dst (.cptr (b (L.getD i.toNat default)))):=by
 unfold ss at h;split at h
 case h_2=>cases h
 rename_i T x y c e;obtain⟨d,c,p⟩:=gy c;split at h
 case h_2=>cases h
 rename_i f g j k;simp only[h7]at h;obtain⟨rfl,rfl,rfl⟩:=h;rw[c];exact vQ enc b L _ T x y d e c p f g j k l q m
def nU(P:Program)(n:Nat)(s:AS)(o:Oper):Option (Nat×Nat×Int×List bl):=match eD n o,o.op with
 | true,.indexAddr T x y=>match s.ev x,s.ev y,fe P T,cY P T with
  | some (.ref id),some (.int _ i),none,some (_,sz)=>match look id s.r with
   | some ⟨_,a,l⟩=>match Nat.beq sz a with
    | true=>some (id,sz,i,l)
    | false=>none
   | none=>none
  | _,_,_,_=>none
 | _,_=>none
theorem mc(id sz:Nat)(enc:α→bl){L:List α}{i:Int}(l:br i L.length=true)(h:nU P n s o=some (id,sz,i,L.map enc):=by kernel_rfl):aH P n s o=some (s.put o.dst (.eptr id sz i.toNat 0)):=by
 unfold nU at h;split at h
 case h_2=>cases h
 rename_i T x y a c;obtain⟨d,a,m⟩:=gy a;split at h
 case h_2=>cases h
 rename_i e f g j;split at h
 case h_2=>cases h
 rename_i k;split at h
 case h_2=>cases h
 rename_i b;have b:=iN b;simp only[h7,nw]at h;obtain⟨rfl,rfl,rfl,rfl⟩:=h;subst b;rw[a];exact yb enc L _ T x y d c a m e f k g j l
def qd(n:Nat)(s:AS)(o:Oper):Option (TypeId×Nat×Nat×List bl):=match eD n o,o.op with
 | true,.load T x=>match s.ev x with
  | some (.eptr id sz j off)=>match look id s.r with
   | some ⟨_,a,l⟩=>match Nat.beq sz a&&Nat.ble (id+1) TG with
    | true=>some (T,j,off,l)
    | false=>none
   | none=>none
  | _=>none
 | _,_=>none
def wS:Option AV→AV
 | some v=>v
 | none=>.any
def yz:Option AV→Bool
 | some _=>true
 | none=>false
theorem eF(T:TypeId)(off:Nat)(enc b:α→bl){L:List α}{j:Nat}(q:j<L.length)(p:∀a,enc a=b a)(h:qd n s o=some (T,j,off,L.map enc):=by kernel_rfl)(k:yz (cT P T ((b (L.getD j default)).drop off))=true:=by kernel_rfl):
  aH P n s o=some (s.put o.dst (wS (cT P T ((b (L.getD j default)).drop off)))):=by
 unfold qd at h;split at h
 case h_2=>cases h
 rename_i T' x e f;obtain⟨d,e,r⟩:=gy e;split at h
 case h_2=>cases h
 rename_i l;split at h
 case h_2=>cases h
 rename_i m;split at h
 case h_2=>cases h
 rename_i c;rw[fz]at c;have g:=f6 c.2;have c:=iN c.1;simp only[h7,nw]at h;obtain⟨rfl,rfl,rfl,rfl⟩:=h;subst c;cases i:cT P T' ((b (L.getD _ default)).drop _) with
 | none=>rw[i]at k;cases k
 | some v =>
  rw[e];exact uM enc b L T' x d g f e r l m q p i
def oZ(P:Program)(s:AS)(o:Oper):Option (Nat×TypeId×Nat×Nat×Nat×List bl):=match o.dst,o.op with
 | none,.store T x y=>match s.ev x,s.ev y with
  | some (.eptr id sz j off),some v=>match look id s.r,dE v,aV P T with
   | some ⟨b,a,l⟩,some c,some k=>match Nat.beq sz a&&Nat.beq k c.length with
    | true=>some (id,b,sz,j,off,l)
    | false=>none
   | _,_,_=>none
  | _,_=>none
 | _,_=>none
def ik(s:AS)(o:Oper):bl:=match o.op with
 | .store _ _ y=>match s.ev y with
  | some v=>match dE v with|some a=>a|none=>[]
  | none=>[]
 | _=>[]
theorem ki(id:Nat)(f:TypeId)(sz off:Nat)(enc b:α→bl){L:List α}{j:Nat}(new:α)(z:j<L.length)(w:∀a,enc a=b a)(h:oZ P s o=some (id,f,sz,j,off,L.map enc):=by kernel_rfl)
  (d:(Nat.ble (off+(ik s o).length) (b (L.getD j default)).length&&bS [] (ik s o))=true:=by kernel_rfl) (i:db off (ik s o) (b (L.getD j default))=b new:=by kernel_rfl) :
  aH P n s o=some (qE id ⟨f,sz,(L.set j new).map enc⟩ s):=by
 unfold oZ at h;split at h
 case h_2=>cases h
 rename_i T x y u c;split at h
 case h_2=>cases h
 rename_i v m g;split at h
 case h_2=>cases h
 rename_i B k p l A;split at h
 case h_2=>cases h
 rename_i e;simp only[fz]at e;have q:=iN e.1;have r:=iN e.2;simp only[h7,nw]at h;obtain⟨rfl,rfl,rfl,rfl,rfl,rfl⟩:=h;subst q;subst r;have t:ik s o=B:=by unfold ik;simp only[c,g,l]
 rw[t]at d i;simp only[fz]at d;exact yt enc b L new T x y c u m g p z l A w d.1 d.2 i
def pq(P:Program)(n:Nat)(s:AS)(o:Oper):Option (List bl):=match eD n o,o.op with
 | true,.call ⟨.builtin .len,⟨[x]⟩,⟨[T]⟩⟩=>match s.ev x,cY P T with
  | some (.sl l),some _=>some l
  | some (.ref id),some _=>match look id s.r with
   | some ⟨_,_,l⟩=>some l
   | none=>none
  | _,_=>none
 | _,_=>none
theorem bP enc(L:List α)(h:pq P n s o=some (L.map enc):=by kernel_rfl):aH P n s o=some (s.put o.dst (.int .i64 L.length)):=by
 grind[pq,gy,uR,uC]
def qv(P:Program)(n:Nat)(s:AS)(o:Oper):Option (Nat×Nat×TypeId×Nat×Nat×List bl×List bl):=match o.dst,o.op with
 | some d,.call ⟨.builtin .append,⟨[x,y]⟩,⟨[T,T']⟩⟩=>match Nat.beq T T'&&Nat.ble (d+1) n,s.ev x,s.ev y,fr P T with
  | true,some (.ref id),some (.sl new),some (c,sz,bytes)=>match look id s.r with
   | some ⟨a,b,l⟩=>match (Nat.beq c a&&Nat.beq sz b)&&!s.u.contains (co id) with
    | true=>some (d,id,c,sz,bytes,new,l)
    | false=>none
   | none=>none
  | _,_,_,_=>none
 | _,_=>none
theorem eT(d id:Nat)(i:TypeId)(sz:Nat)(enc:α→bl){L M:List α}{bytes:Nat}{new:List bl}(b:new=M.map enc)(w:∀a,(enc a).length=sz)(v:fits (L.length+M.length) bytes=true)(h:qv P n s o=some (d,id,i,sz,bytes,new,L.map enc):=by kernel_rfl):
  aH P n s o=some (kH d id ⟨i,sz,(L++M).map enc⟩ s):=by
 unfold qv at h;split at h
 case h_2=>cases h
 rename_i z x y T T' u g;split at h
 case h_2=>cases h
 rename_i f j k l;simp only[fz]at f;have t:=iN f.1;split at h
 case h_2=>cases h
 rename_i m;split at h
 case h_2=>cases h
 rename_i c;simp only[fz,zG]at c;have p:=iN c.1.1;have q:=iN c.1.2;have r:=c.2;simp only[h7,nw]at h;obtain⟨rfl,rfl,rfl,rfl,rfl,rfl,rfl⟩:=h;have e:T=T':=t;subst e;subst p;subst q;exact yh enc L M T x y _ g u f.2 j k b m l w v r rfl rfl
def rb(P:Program)(n:Nat)(s:AS)(o:Oper)(new:List bl):Option AS:=match eD n o with
 | true=>some (s.put o.dst (.sl new))
 | false=>none
theorem dY enc(M:List α){new}(a:new=M.map enc)(h:aH P n s o=rb P n s o new:=by kernel_rfl)(b:eD n o=true:=by kernel_rfl):aH P n s o=some (s.put o.dst (.sl (M.map enc))):=by
 grind[rb]
def lu(n:Nat)(s:AS)(o:Oper):Option (BinOp×AV×AV):=match eD n o,o.op with
 | true,.binOp a _ x y _=>match s.ev x,s.ev y with
  | some u,some v=>some (a,u,v)
  | _,_=>none
 | _,_=>none
theorem y6 k a{b}(c:(b != 0)=true)(h:lu n s o=some (.rem,.int k a,.int k b):=by kernel_rfl):aH P n s o=some (s.put o.dst (.int k (a.tmod b))):=by
 grind[lu,gy,vK]
theorem pd{a b}(c:fE a b=true)(h:lu n s o=some (.add,.str a,.str b):=by kernel_rfl):aH P n s o=some (s.put o.dst (.str (a++b))):=by
 grind[lu,gy,wi]
end
section
variable{a:Cx}{Q:AV→AS→Prop}{s:AS}{b:Func}
theorem aZ{V}(h:dp a.P s b.results.toList=some [V]:=by kernel_rfl):VE (fm:=fm0) a (bodyPost a.P b (bB a.M a.w0 (fun v _=>v=V))) [] .ret s:=lb rfl h rfl
theorem f0{l}(h:dp a.P s b.results.toList=some l:=by kernel_rfl)(c:kk l=.tup l:=by kernel_rfl):VE (fm:=fm0) a (bodyPost a.P b (bB a.M a.w0 (fun v _=>v=.tup l))) [] .ret s:=lb rfl h c
theorem k7{V}{id}{ar}(h:dp a.P s b.results.toList=some [V]:=by kernel_rfl)(c:look id s.r=some ar:=by kernel_rfl):VE (fm:=fm0) a (bodyPost a.P b (bB a.M a.w0 (fun v s=>v=V∧look id s.r=some ar))) [] .ret s:=lb rfl h ⟨rfl,c⟩
theorem mj{l}{id}{ar}(h:dp a.P s b.results.toList=some l:=by kernel_rfl)(c:look id s.r=some ar:=by kernel_rfl)(d:kk l=.tup l:=by kernel_rfl):VE (fm:=fm0) a (bodyPost a.P b (bB a.M a.w0 (fun v s=>v=.tup l∧look id s.r=some ar))) [] .ret s :=by grind[lb]
end
def lg(id:Nat)(s:AS):AS:=match look id s.r with|some ar=>s.aO id ar.l|none=>s
def g7(id:Nat)(s:AS):Bool:=match look id s.r with|some _=>!s.u.contains (co id)&&Nat.ble (id+1) TG|none=>false
theorem gR{b}{id}(h:(!b&&Nat.ble (id+1) TG)=true):b=false∧id<TG:=by
 rw[fz]at h;exact⟨by grind,f6 h.2⟩
def ra(id a:Nat)(s:AS):AS:=match look id s.r with|some ar=>⟨fO id a s.t,fG id a s.o,aD a ar (era id s.r),a::s.u⟩|none=>s
def o6(d i n:Nat)(b:TypeId)(sz:Nat)(s:AS):AS:=match look i s.o with|some a=>⟨s.t,aD i (a.set n (.ref d)) s.o,aD d ⟨b,sz,[]⟩ s.r,d::s.u⟩|none=>s
def pO(i n:Nat)(s:AS):Bool:=match look i s.o with|some a=>(match a[n]? with|some .nils=>true|_=>false)|none=>false
section
variable{a:Cx}{Q:Exit→Act→World→Prop}{b:b6}{e:Exit}{s:AS}{c:Array Oper}{l:List Oper}
theorem zp id(h:VE a Q b e (lg id s))(d:g7 id s=true:=by kernel_rfl):VE a Q b e s:=by
 unfold g7 at d;unfold lg at h;split at d
 ·rename_i ar c;rw[c]at h;exact yi id (gR d).2 c (gR d).1 h
 grind
theorem kt id(h:OT a Q b c l (lg id s))(e:g7 id s=true:=by kernel_rfl):OT a Q b c l s:=by
 unfold g7 at e;unfold lg at h;split at e
 ·rename_i ar d;rw[d]at h;exact ul id (gR e).2 d (gR e).1 h
 grind
theorem uf id c(h:VE a Q b e (ra id c s))(f:g7 id s=true:=by kernel_rfl)(g:has s.u c=false:=by kernel_rfl):VE a Q b e s:=by
 unfold g7 at f;unfold ra at h;split at f
 ·rename_i ar d;rw[d]at h;exact wR id c (gR f).2 d g (gR f).1 h
 grind
theorem kz d k c sz(h:VE a Q b e (uO k d ⟨c,sz,[]⟩ s))(f:has s.u d=false:=by kernel_rfl)(g:look k s.t=some .nils:=by kernel_rfl):VE a Q b e s:=tP d k c sz f g h
theorem nB d i n c sz(h:VE a Q b e (o6 d i n c sz s))(f:has s.u d=false:=by kernel_rfl)(g:pO i n s=true:=by kernel_rfl):VE a Q b e s:=by
 grind[pO,o6,vi]
end
section
variable{P:Program}{n:Nat}{c:AS}{b:Array Oper}{e:List Tag}{K:Nat}{a:em}{o:Oper}
theorem mV{m}{s'}(h:aH P n (nth a m) o=some s')(d:s'=nth a (m+1):=by kernel_rfl)(f:o.guard.isNone=true:=by kernel_rfl):cv P n c b e K a o (.s (m+1)) :=by grind[sR]
theorem cH m(h:aH P n (nth a m) o=some (nth a (m+1)):=by kernel_rfl)(d:o.guard.isNone=true:=by kernel_rfl):cv P n c b e K a o (.s (m+1)):=sR d h
theorem tX{lo}{s'}(h:aH P n (nth a lo) o=some s')(d:s'=nth a lo:=by kernel_rfl)(f:bN b (nth a lo) o=true:=by kernel_rfl):cv P n c b e K a o (.v lo 1) :=by grind[fx,dD,dH,fV]
def lX(b:Array Oper)(a:em)(o:Oper)(d:Nat):Nat→Nat→List (Bool×Option (FuncId×bl)×Option AV)
 | _,0=>[]
 | lo,k+1=>(bN b (nth a lo) o,cC (nth a lo) o,look d (nth a lo).t)::lX b a o d (lo+1) k
def kZ(x:Bool×Option (FuncId×bl)×Option AV):Nat→List (Bool×Option (FuncId×bl)×Option AV)
 | 0=>[]
 | k+1=>x::kZ x k
theorem sI{d}{f}{c}{V}:∀{k lo},lX b a o d lo k=kZ (true,some (f,c),some V) k→bT lo k fun j=>bN b (nth a j) o=true∧cC (nth a j) o=some (f,c)∧look d (nth a j).t=some V
 | 0,_,_=>trivial
 | k+1,lo,h=>by
  simp only[lX,kZ,Aa,nw]at h;exact⟨⟨h.1.1,h.1.2.1,h.1.2.2⟩,sI h.2⟩
theorem bQ(lo k d:Nat){f}{g}{V}(l:aF P f g (fun v _=>v=V))(i:bW P f=true:=by kernel_rfl)(p:V.bu []=true:=by kernel_rfl)(m:o.dst=some d:=by kernel_rfl)(j:Nat.ble (d+1) n=true:=by kernel_rfl)
  (h:lX b a o d lo k=kZ (true,some (f,g),some V) k:=by kernel_rfl):cv P n c b e K a o (.c lo k) :=by grind[vX,sI]
def kG(b:Array Oper)(a:em)(o:Oper)(d:Nat):Nat→Nat→List (Bool×Option (FuncId×bl)×Option AV×Option bw×Bool×Bool)
 | _,0=>[]
 | lo,k+1=>(bN b (nth a lo) o,cC (nth a lo) o,look d (nth a lo).t,look d (nth a lo).r,(look d (nth a lo).o).isNone,has (nth a lo).u d)::kG b a o d (lo+1) k
def kT(x:Bool×Option (FuncId×bl)×Option AV×Option bw×Bool×Bool):Nat→List (Bool×Option (FuncId×bl)×Option AV×Option bw×Bool×Bool)
 | 0=>[]
 | k+1=>x::kT x k
theorem oG{d}{f}{c}{V}{ar}:∀{k lo},kG b a o d lo k=kT (true,some (f,c),some V,some ar,true,true) k→bT lo k fun j=>bN b (nth a j) o=true∧cC (nth a j) o=some (f,c)∧look d (nth a j).t=some V∧look d (nth a j).r=some ar∧look d (nth a j).o=none∧has (nth a j).u d=true
 | 0,_,_=>trivial
 | k+1,lo,h=>by
  simp only[kG,kT,Aa,nw]at h;exact⟨⟨h.1.1,h.1.2.1,h.1.2.2.1,h.1.2.2.2.1,by simp_all,h.1.2.2.2.2.2⟩,oG h.2⟩
theorem y1(lo k d:Nat){f}{g}{V}{id}{ar}(p:aF P f g (fun v s=>v=V∧look id s.r=some ar))(i:∀(N:Nat→Prop) w ι x,Rel N w ι V x→∃y,ι id=some y)(j:bW P f=true:=by kernel_rfl)
  (q:o.dst=some d:=by kernel_rfl) (l:Nat.ble (d+1) n=true:=by kernel_rfl) (r:has c.u d=false:=by kernel_rfl) (m:Nat.ble (id+1) TG=true:=by kernel_rfl) (h:kG b a o d lo k=kT (true,some (f,g),some (V.cq id d),some ar,true,true) k:=by kernel_rfl):cv P n c b e K a o (.o lo k):=tE V d m p j i q l r (oG h)
end
end Go.Proofs.Ytkciiamllegclaa
namespace Go.Proofs.Ytkciiamllegclaa
set_option linter.all false
variable[ZX]
open Go.RowKit
variable[FM]
theorem jV{α β:Type}{x}{f:α→Option β}{r}(h:(some x).bind f=some r):∃v,x=v∧f v=some r :=by grind
abbrev iI(x:Int):AV:=.int .i64 x
abbrev gD{α:Type}[Inhabited α](L:List α)(i:Int):α:=List.getD L i.toNat default
def ig(b:Nat→Bool):Nat→Nat→Bool
 | _,0=>true
 | lo,k+1=>b lo&&ig b (lo+1) k
theorem qk{b}:∀{lo k},ig b lo k=true→bT lo k fun j=>b j=true
 | _,0,_=>trivial
 | lo,k+1,h=>by
  unfold ig at h;rw[fz]at h;exact⟨h.1,qk h.2⟩
theorem aQ{P}{n:Nat}{c}{a}{e}{K}{b}{o} lo k(g:o.guard.isSome=true:=by kernel_rfl)(h:ig (fun j=>ku a (nth b j) o) lo k=true:=by kernel_rfl)
  (f:ig (fun j=>(match o.dst with|some d=>(match look d (nth b j).t with|none=>true|some (.tup [])=>Nat.ble (d+1) n|_=>false)|none=>true)) 0 (K+1)=true:=by kernel_rfl):cv P n c a e K b o (.off lo k) :=by grind[tv,qk]
def vz(n:Nat):List Tag:=List.replicate n (.v 0 1)
theorem dS{P}{n}{f}{c}{g}{K}{a}{o}(lo d:Nat){e b}(i:e=b)(j:bN c (nth a lo) o=true:=by kernel_rfl)(h:aH P n (nth a lo) o=some ((nth a lo).put (some d) (.bool e)):=by kernel_rfl)(k:(nth a lo).put (some d) (.bool b)=nth a lo:=by kernel_rfl):
  cv P n f c g K a o (.v lo 1) :=by grind[fx,dD,uc,fV]
def nu:Nat→bl→List dO
 | _,[]=>[]
 | k,x::l=>(k,x)::nu (k+1) l
abbrev lm{α β:Type}(f:α→β)(l:List α):List β:=List.map f l
theorem bi{P}{f}{b}{a}{Q}{n} c(g:P.funcs[f]?=some b)(j:b.ntmps=n)(h:∀M d,VE (fm:=fm0) ⟨P,n,M,d⟩ (bodyPost P b (bB M d Q)) [.c c] .normal ⟨idxs 0 a,[],[],[]⟩)
  (e:b.body=some c:=by kernel_rfl) (i:decide (a.length≤n)=true:=by kernel_rfl):aF P f a Q :=by grind[yN]
theorem bj{a}{Q}{b}{e}{s} s'(h:VE a Q b e s')(c:s=s':=by kernel_rfl):VE a Q b e s:=c ▸ h
theorem mC{P}{n}{s}{o}{α:Type}[Inhabited α] id sz enc{L:List α}{i}{m}(a:br i m=true)(b:L.length=m:=by simp only[Av])(h:nU P n s o=some (id,sz,i,L.map enc):=by kernel_rfl):aH P n s o=some (s.put o.dst (.eptr id sz i.toNat 0)) :=by grind[mc]
theorem di{P}{n}{c}{a}{d}{K}{b}{f}{p}{i}{ts}{s'}(h:aH P n (nth b 0) (bh f p i)=some s')(e:cg P n c a d K b (aP f p (i+1)) ts)(g:s'=nth b 0:=by kernel_rfl)(j:bN a (nth b 0) (bh f p i)=true:=by kernel_rfl)
  (k:aP f p i=bh f p i::aP f p (i+1):=by kernel_rfl):cg P n c a d K b (aP f p i) (.v 0 1::ts):=av (tX h g j) e k
def rh:Nat→Nat→ck→ck
 | 0,_,l=>l
 | k+1,x,l=>match Nat.ble x 1 with
  | true=>l
  | false=>rh k (x / 2) (x % 2::l)
def pn(x:Nat):ck:=rh 90 x []
def wq(n q:Nat):Nat:=n*2 ^ q.log2+(q-2 ^ q.log2)
section
variable{e:Cx}{Q:Exit→Act→World→Prop}{g:b6}{s:AS}{f:Func}{n:Nat}
abbrev cP(f:Func)(n:Nat):aw:=.c (cat f (pn n))
theorem aA a b k(c:VE e Q (cP f (wq n a)::cP f (wq n b)::g) .normal (cS e.P e.n k (cP f n::g) .normal s))(h:cQ e.P e.n k (cP f n::g) .normal s=some (cP f (wq n a)::cP f (wq n b)::g,.normal):=by kernel_rfl):VE e Q (cP f n::g) .normal s:=cO k c h
theorem bt a k(b:VE e Q (cP f (wq n a)::g) .normal (cS e.P e.n k (cP f n::g) .normal s))(h:cQ e.P e.n k (cP f n::g) .normal s=some (cP f (wq n a)::g,.normal):=by kernel_rfl):VE e Q (cP f n::g) .normal s:=cO k b h
theorem dF a b c d k(i:VE e Q (cP f (wq n a)::cP f (wq n b) :: .b c::cP f (wq n d)::g) .normal (cS e.P e.n k (cP f n::g) .normal s))(h:cQ e.P e.n k (cP f n::g) .normal s=some (cP f (wq n a)::cP f (wq n b) :: .b c::cP f (wq n d)::g,.normal):=by kernel_rfl):VE e Q (cP f n::g) .normal s:=cO k i h
theorem cr a b c k(d:VE e Q (cP f (wq n a)::cP f (wq n b)::cP f (wq n c)::g) .normal (cS e.P e.n k (cP f n::g) .normal s))(h:cQ e.P e.n k (cP f n::g) .normal s=some (cP f (wq n a)::cP f (wq n b)::cP f (wq n c)::g,.normal):=by kernel_rfl):VE e Q (cP f n::g) .normal s:=cO k d h
theorem eP a b c k(d:VE e Q (cP f (wq n a) :: .b b::cP f (wq n c)::g) .normal (cS e.P e.n k (cP f n::g) .normal s))(h:cQ e.P e.n k (cP f n::g) .normal s=some (cP f (wq n a) :: .b b::cP f (wq n c)::g,.normal):=by kernel_rfl):VE e Q (cP f n::g) .normal s:=cO k d h
theorem sf a b k(c:VE e Q (cP f (wq n a) :: .b b::g) .normal (cS e.P e.n k (cP f n::g) .normal s))(h:cQ e.P e.n k (cP f n::g) .normal s=some (cP f (wq n a) :: .b b::g,.normal):=by kernel_rfl):VE e Q (cP f n::g) .normal s:=cO k c h
theorem mQ{c d i j} a b k(l:VE e Q (cP f (wq n a)::cP f (wq n b)::g) .normal (cS e.P e.n k (c::d::i::j::cP f n::g) .normal s))(h:cQ e.P e.n k (c::d::i::j::cP f n::g) .normal s=some (cP f (wq n a)::cP f (wq n b)::g,.normal):=by kernel_rfl):VE e Q (c::d::i::j::cP f n::g) .normal s:=cO k l h
theorem d5{i} a b c d k(j:VE e Q (cP f (wq n a)::cP f (wq n b) :: .b c::cP f (wq n d)::g) .normal (cS e.P e.n k (i::cP f n::g) .normal s))(h:cQ e.P e.n k (i::cP f n::g) .normal s=some (cP f (wq n a)::cP f (wq n b) :: .b c::cP f (wq n d)::g,.normal):=by kernel_rfl):VE e Q (i::cP f n::g) .normal s:=cO k j h
theorem fa{c} a b k(d:VE e Q (cP f (wq n a)::cP f (wq n b)::g) .normal (cS e.P e.n k (c::cP f n::g) .normal s))(h:cQ e.P e.n k (c::cP f n::g) .normal s=some (cP f (wq n a)::cP f (wq n b)::g,.normal):=by kernel_rfl):VE e Q (c::cP f n::g) .normal s:=cO k d h
theorem uA{d} a b c k(i:VE e Q (cP f (wq n a) :: .b b::cP f (wq n c)::g) .normal (cS e.P e.n k (d::cP f n::g) .normal s))(h:cQ e.P e.n k (d::cP f n::g) .normal s=some (cP f (wq n a) :: .b b::cP f (wq n c)::g,.normal):=by kernel_rfl):VE e Q (d::cP f n::g) .normal s:=cO k i h
theorem pN{d} a b c k(i:VE e Q (cP f (wq n a)::cP f (wq n b)::cP f (wq n c)::g) .normal (cS e.P e.n k (d::cP f n::g) .normal s))(h:cQ e.P e.n k (d::cP f n::g) .normal s=some (cP f (wq n a)::cP f (wq n b)::cP f (wq n c)::g,.normal):=by kernel_rfl):VE e Q (d::cP f n::g) .normal s:=cO k i h
end
end Go.Proofs.Ytkciiamllegclaa
namespace Go.Proofs.Ytkciiamllegclaa
set_option linter.all false
variable[ZX]
open Go.RowKit
variable[FM]
theorem vp{α:Type}(xs:Array α)(i:Nat)(f:α→α)(h:∀x,xs[i]?=some x→f x=x):xs.modify i f=xs:=by
 apply AE;intro j;rw[Array.getElem?_modify];split
 ·rename_i e;subst e;cases a:xs[i]? with
  | none=>rfl
  | some x=>simp[h x a]
 ·rfl
theorem vd{w:World}{b o:Nat}{v:Value}(h:w.cell? ⟨b,o,none⟩=some v):w.setCell ⟨b,o,none⟩ v=w:=by
 have e:∀f:Obj→Obj,(∀x,w.heap[b]?=some x→f x=x)→({ w with heap:=w.heap.modify b f }:World)=w:=fun f a=>by
  rw[vp w.heap b f a]
 unfold World.setCell;refine e _ fun x d=>?_;unfold World.cell? at h;simp only[d]at h;cases x with
 | cells c T g =>
  simp only[Option.isSome_none,fl,n5]at h⊢;congr 1;apply AE;intro j;rw[Array.getElem?_setIfInBounds];split
  ·rename_i e;subst e;split
   ·exact h.symm
   ·rename_i i;rw[Al (by omega)]
  ·rfl
 | _=>rfl
theorem mg{w:World}{b:Nat}:∀(vs:b5) (o:Nat),(∀j v,vs[j]?=some v→w.cell? ⟨b,o+j,none⟩=some v)→w.setCells b o vs=w
 | [],_,_=>rfl
 | v::r,o,h=>by
  have a:w.cell? ⟨b,o,none⟩=some v:=h 0 v rfl;rw[World.setCells,vd a];exact mg r (o+1) fun j u c=>by
   have:=h (j+1) u (by simpa using c);rwa[show o+(j+1)=o+1+j by omega]at this
def dt:bl:=(ct bk).getD []
theorem fH:ct bk=some dt:=rfl
theorem rt:bk.length=aE:=rfl
theorem kn:∀v∈bk,v.oneCell'=true:=(dh (fun _=>False) ⟨#[],fun _ _=>0,0,default,#[]⟩ aG fH).one
theorem fq{j:Nat}(h:j<aE):bk[j]?=some (zc j):=by
 have a:j<bk.length:=h;unfold zc;rw[u4,ez a];rfl
theorem px{N:Nat→Prop}{w:World}{ι:Env}{v x:Value}{c:AV}(h:dQ v=some c)(a:Rel N w ι c x):x=v:=by
 unfold dQ at h;split at h<;>first|(cases h;done)|(injection h with h;subst h;cases a;rfl)
theorem pk{N:Nat→Prop}{w:World}{ι:Env}:∀{vs:b5} {d:bl},ct vs=some d→∀{xs:b5},d.length=xs.length→(∀(i:Nat) (c:AV) (x:Value),d[i]?=some c→xs[i]?=some x→Rel N w ι c x)→xs=vs
 | [],d,h,xs,f,_=>by injection h with h;subst h;exact iF f.symm
 | v::r,d,h,xs,f,j=>by
  unfold ct at h;cases e:dQ v with
  | none=>rw[e]at h;cases h
  | some a =>
   cases g:ct r with
   | none=>rw[e,g]at h;cases h
   | some b =>
    rw[e,g]at h;injection h with h;subst h
    cases xs with
    | nil=>simp at f
    | cons x xs =>
     rw[px e (j 0 a x rfl rfl),pk g (xs:=xs) (by simpa using f) (fun i c y k l=>j (i+1) c y (by simpa using k) (by simpa using l))]
def iG(P:Program)(T:TypeId):Option (TypeId×Nat) :=
 match P.underlying T with
 | some (.slice e)=>match P.info? e with
  | some i=>match i.zero with
   | some z=>match Nat.beq i.size aE&&iR z.cells.toList bk with
    | true=>some (e,i.bytes)
    | false=>none
   | none=>none
  | none=>none
 | _=>none
theorem rV{P:Program}{T e:TypeId}{bytes:Nat}(h:iG P T=some (e,bytes)):∃i z,P.underlying T=some (.slice e)∧P.info? e=some i∧i.zero=some z∧i.size=aE∧i.bytes=bytes∧z.cells.toList=bk:=by
 unfold iG at h;split at h
 case h_2=>cases h
 rename_i j f;split at h
 case h_2=>cases h
 rename_i i d;split at h
 case h_2=>cases h
 rename_i z g;split at h
 case h_2=>cases h
 rename_i a;rw[fz]at a;injection h with h;injection h with b c
 subst b;exact⟨i,z,f,d,g,iN a.1,c,nT a.2⟩
theorem vT{N:Nat→Prop}{w q:World}{ι:Env}{l:List bl}{J:bl}{ys:Array Value}{vs:b5}{e:TypeId}{cap:Nat}{z:Array Value}
  (hz:∀c∈l,c.length=aE) (G:z.toList=bk) (H:ct bk=some dt) (I:J=dt.map cy) (t:vs.length=l.length*aE) (Q:∀v∈vs,v.oneCell'=true)
  (hr:∀(j:Nat) (c:bl),l[j]?=some c→∀(i:Nat) (x:AV),c[i]?=some x→∃y,vs[j*aE+i]?=some y∧Rel N w aG x y)
  (hs:w.heap.size≤q.heap.size) (hw:∀b,b<w.heap.size→q.heap[b]?=w.heap[b]?) {g:Nat} (K:q.heap[g]?=some (.cells ((vs++bk).toArray++Builtin.zeroCells z (cap-(l.length+1))) e (0,0))) (Y:¬ N g) (u:l.length+1≤cap) :
  Rel N q ι (.sl (l++[J])) (.slice (some ⟨g,0,none⟩) (l.length+1) cap)∧∀j,j<aE→q.cell? ⟨g,l.length*aE+j,none⟩=some (zc j)∧q.frozen? ⟨g,l.length*aE+j,none⟩=false:=by
 have F:0<aE:=by decide
 have S:z.size=aE:=by rw[←oR,G];rfl
 have R:(vs++bk).toArray.size=(l.length+1)*aE:=by simp[t,rt,sb]
 have P:g<q.heap.size:=(ll.1 K).1;have f:∀k,q.cell? ⟨g,k,none⟩=((vs++bk).toArray++Builtin.zeroCells z (cap-(l.length+1)))[k]?:=fun k=>zN _ _ _ _ e (0,0) K;have D:∀k,k<(l.length+1)*aE→q.cell? ⟨g,k,none⟩=(vs++bk)[k]?:=fun k hk=>by
  rw[f,zO (by omega),z8]
 have n:J.length=aE:=by
  have:=(dh (fun _=>False) w aG H).len;rw[I,u6,this];rfl
 have a:(l++[J]).length=l.length+1:=by simp
 have A:∀(j:Nat) (c:bl),(l++[J])[j]?=some c→∀(i:Nat) (x:AV),c[i]?=some x→∃y,(vs++bk)[j*aE+i]?=some y∧Rel N q aG x y:=fun j c d i x B=>by
  by_cases O:j<l.length
  ·rw[og O]at d;obtain⟨y,C,L⟩:=hr j c d i x B;exact⟨y,by rw[og (es.1 C).1];exact C,L.mono hs (fun b _ r=>r) (fun b r _=>hw b r) (fun _ _ h=>h)⟩
  ·rw[kc (by omega)]at d;have M:j=l.length:=by
    have:=(es.1 d).1;simp at this;omega
   subst M;simp only[A9,AN,h7]at d;subst d;have U:i<aE:=by have:=(es.1 B).1;rwa[n]at this
   refine⟨zc i,?_,?_⟩
   ·rw[kc (by omega),t,Ai];exact fq U
   ·have s:=(dh N q aG H).pz;rw[I]at B;exact s.rel i x _ B (fq U)
 refine⟨?_,fun j d=>⟨?_,frozen0 K⟩⟩
 ·rw[←a];refine .sl _ _ g 0 _ aE (fun j i=>((vs++bk)[j*aE+i]?).getD (.bool true)) (fun c s=>?_) P Y (fun j i=>?_) (fun j c d i x B=>?_) (fun j c d i x B=>?_) ⟨by rw[a];exact u,.inr ⟨fun X=>by rw[a]at X;omega,fun _ b o m c' hv k W=>?_⟩⟩
  ·rcases jt.1 s with s|s
   ·exact hz c s
   ·rw[zE.1 s];exact n
  ·cases V:(vs++bk)[j*aE+i]? with
   | none=>rfl
   | some v =>
    rcases jt.1 (h6 V)with h|h
    ·exact Q v h
    ·exact kn v h
  ·obtain⟨y,C,_⟩:=A j c d i x B;have E:=(es.1 C).1;rw[u3,D _ (by rw[v3,t,rt]at E;rw[sb];omega),C];rfl
  ·obtain⟨y,C,L⟩:=A j c d i x B;simp only[C,v7];exact L
  ·injection hv with r _ s;injection r with r;injection r with r Z;subst r;subst Z;subst s
   refine⟨frozen0 K,fun T=>?_⟩;rw[f,u3];rw[a]at T;exact mB (p:=l.length+1) S F G R T (by rw[Az u];exact W)
 ·rw[D _ (by rw[sb];omega),kc (by omega),t,Ai];exact fq d
theorem vf{α:Type}{enc:α→bl}(b:∀a,(enc a).length=aE){L:List α}:∀c∈L.map enc,c.length=aE:=fun c d=>by
 obtain⟨a,_,rfl⟩:=z3.1 d;exact b a
theorem xy{n:Cx}{s:AS}{a:Act}{w:World}{ι:Env}(hp:ZX.p=false)(hs:ax n s a w ι){T ty e:TypeId}{bytes:Nat}(ht:iG n.P T=some (e,bytes)){l:List bl}{zv:bl}(hl:∀c∈l,c.length=aE)(d0:zv=dt.map cy){X:Value}
  (hX:Rel (NN n.M ι) w ι (.sl l) X) (Q:Addr) (m:Nat) (K:∀j u,bk[j]?=some u→w.cell? (Q.add j)=some u) (hf:fits (l.length+1) bytes=true) :
  ∃g off cap I,(Builtin.append_ #[T,T] ty #[X,.slice (some Q) 1 m]).run n.P w=.ok (.slice (some ⟨g,off,none⟩) (l.length+1) cap) I∧Below w.heap.size w I∧Rel (NN n.M ι) I ι (.sl (l++[zv])) (.slice (some ⟨g,off,none⟩) (l.length+1) cap) ∧
   ∀j,j<aE→I.cell? ⟨g,off+l.length*aE+j,none⟩=some (zc j)∧I.frozen? ⟨g,off+l.length*aE+j,none⟩=false:=by
 obtain⟨i,z,hu,Y,hz,G,W,v0⟩:=rV ht;have w0:0<aE:=by decide
 have L:bk.length=1*i.size:=by rw[G,z7];rfl
 have r:l.length+1≤maxLen∧(l.length+1)*bytes≤140737488355328:=by simpa[fits]using hf
 have A0:l.length+1≤9223372036854775807:=by have:=r.1;simp only[maxLen]at this;exact this
 have D:∀o,Below w.heap.size w (w.drew.alloc o):=fun o=>⟨rfl,rfl,rfl,by simp,fun k hk=>iO w.drew o k hk⟩;have q0:¬ NN n.M ι w.heap.size:=fun C=>by have:=hZ hs.hs C;omega
 -- a new block
 have q:∀{vs:b5} {old:Nat},old<l.length+1→vs.length=l.length*aE→(∀v∈vs,v.oneCell'=true)→(∀(j:Nat) (c:bl),l[j]?=some c→∀(i:Nat) (x:AV),c[i]?=some x→∃y,vs[j*aE+i]?=some y∧Rel (NN n.M ι) w aG x y) →
   (Builtin.append_ #[T,T] ty #[X,.slice (some Q) 1 m]).run n.P w=.ok (.slice (some ⟨w.heap.size,0,none⟩) (l.length+1) (grownCap w (l.length+1) old e)) (w.drew.alloc (.cells ((vs++bk).toArray++Builtin.zeroCells z.cells (grownCap w (l.length+1) old e-(l.length+1))) e)) →
   ∃g off cap I,(Builtin.append_ #[T,T] ty #[X,.slice (some Q) 1 m]).run n.P w=.ok (.slice (some ⟨g,off,none⟩) (l.length+1) cap) I∧Below w.heap.size w I∧Rel (NN n.M ι) I ι (.sl (l++[zv])) (.slice (some ⟨g,off,none⟩) (l.length+1) cap) ∧
    ∀j,j<aE→I.cell? ⟨g,off+l.length*aE+j,none⟩=some (zc j)∧I.frozen? ⟨g,off+l.length*aE+j,none⟩=false:=fun {vs old} ho M c0 hr B=>by
  obtain⟨r1,r2⟩:=vT (N:=NN n.M ι) (w:=w) (ι:=ι) (e:=e) (cap:=grownCap w (l.length+1) old e) (z:=z.cells) (ys := #[]) hl v0 fH d0 M c0 hr (D _).size (fun b C=>(D _).block b C) (zH w.drew _) q0 (Ba _ _ _ _);refine⟨_,0,_,_,B,D _,r1,fun j d=>?_⟩;have:=r2 j d;rw[u3];exact this
 obtain⟨A,c,rfl,B0,a0⟩:=me hs (sz:=aE) (new:=l) (x:=.sl l) (by unfold eG;simp only[];rw[l2 (lp.2 fun e he=>by simpa using hl e he)]) hX;cases hX with
 | sl0 _ _ _ R =>
  obtain⟨rfl,rfl⟩:A=none∧c=0:=by
   rcases R with R|R
   ·rw[hp]at R;cases R
   ·exact R
  refine q (vs:=[]) (old:=0) (by simp) (by simp) (fun v hv=>(by cases hv)) (fun j c d=>by simp at d) ?_;have:=AZ (P:=n.P) w T ty e i z hu Y hz Q 1 m bk L K (by omega) (by omega) (by have:=r.2;simp only[ti]at this;rw[W];omega);simpa using this
 | sl _ _ b o _ sz e0 t0 C hN h1 E hr S =>
  by_cases f:l.length+1≤c
  ·have i0:0<l.length:=by
    rcases Nat.eq_zero_or_pos l.length with h|h
    ·rcases S.2 with J|J
     ·rw[hp]at J;cases J
     ·cases J.1 h
    ·exact h
   have m0:sz=aE:=by
    rw[←t0 l[0] (zF i0)];exact hl _ (zF i0)
   subst m0;have F:∀k,k<c*aE→w.frozen? ⟨b,o+k,none⟩=false∧(l.length*aE≤k→w.cell? ⟨b,o+k,none⟩=some (zc (k % aE))):=fun k V=>by
    rcases S.2 with J|J
    ·rw[hp]at J;cases J
    ·exact J.2 rfl b o l.length c rfl k V
   have l0:∀k,l.length*aE≤k→k<c*aE→w.cell? ⟨b,o+k,none⟩=some (zc (k % aE))∧w.frozen? ⟨b,o+k,none⟩=false:=fun k g1 V=>⟨(F k V).2 g1,(F k V).1⟩;have o0:(l.length+1)*aE≤c*aE:=ro _ f;have p:∀j,j<aE→w.cell? ⟨b,o+l.length*aE+j,none⟩=some (zc j)∧w.frozen? ⟨b,o+l.length*aE+j,none⟩=false:=fun j d=>by
    have:=l0 (l.length*aE+j) (by omega) (by rw[sb]at o0;omega);rw[Aq,Nat.mul_add_mod,AO d,Aq,← z4]at this;exact this
   have B:=run_append_room_cells (P:=n.P) w T ty e i hu Y b o l.length c Q 1 m bk L K kn f (fun j d=>by rw[G,(p j d).1];rfl) (fun j d=>by rw[G];exact(p j d).2);have b0:w.setCells b (o+l.length*i.size) bk=w:=mg _ _ fun j v d=>by
    have g0:j<aE:=(es.1 d).1;rw[fq g0]at d;injection d with d;subst d
    rw[G];exact(p j g0).1
   rw[b0]at B;have H:zv.length=aE:=by
    have:=(dh (fun _=>False) w aG fH).len;rw[d0,u6,this];rfl
   have t:(l++[zv]).length=l.length+1:=by simp
   have U:∀(j:Nat) (c:bl),(l++[zv])[j]?=some c→∀(i:Nat) (x:AV),c[i]?=some x→w.cell? ⟨b,o+j*aE+i,none⟩=some (if j<l.length then e0 j i else zc i)∧Rel (NN n.M ι) w aG x (if j<l.length then e0 j i else zc i):=fun j c d i x O=>by
    by_cases Z:j<l.length
    ·rw[og Z]at d;rw[l2 Z];exact⟨E j c d i x O,hr j c d i x O⟩
    ·rw[kc (by omega)]at d;have p0:j=l.length:=by
      have:=(es.1 d).1;simp at this;omega
     subst p0;simp only[A9,AN,h7]at d;subst d;have Y:i<aE:=by have:=(es.1 O).1;rwa[H]at this
     rw[o9 Z];refine⟨(p i Y).1,?_⟩;have E:=(dh (NN n.M ι) w aG fH).pz;rw[d0]at O;exact E.rel i x _ O (fq Y)
   refine⟨b,o,c,w,B,Below.refl _ _,?_,p⟩;rw[←t];refine .sl _ _ b o c aE (fun j i=>if j<l.length then e0 j i else zc i) (fun c E=>?_) C hN (fun j i=>?_) (fun j c d i x O=>(U j c d i x O).1) (fun j c d i x O=>(U j c d i x O).2) ⟨by rw[t];exact f,.inr ⟨fun R=>by rw[t]at R;omega,fun _ b' o' m' c' hv k V=>?_⟩⟩
   ·rcases jt.1 E with E|E
    ·exact hl c E
    ·rw[zE.1 E];exact H
   ·split
    ·exact h1 j i
    ·unfold zc;rw[u4];cases e:bk[i]? with
     | none=>rfl
     | some v=>exact kn v (h6 e)
   ·injection hv with C _ E;injection C with C;injection C with C ho;subst C;subst ho;subst E
    refine⟨(F k V).1,fun g1=>?_⟩;rw[t]at g1;exact(l0 k (by rw[sb]at g1;omega) V).1
  ·rcases a0 with k0|⟨x0,vs,hA,M,r0,c0,s0⟩
   ·subst k0;have z0:c=0:=by simp only[ti]at f;omega
    refine q (vs:=[]) (old:=c) (by simp only[ti];omega) (by simp) (fun v hv=>(by cases hv)) (fun j c d=>by simp at d) ?_;have:=Ax (P:=n.P) w T ty e i z hu Y hz ⟨b,o,none⟩ 0 c [] (by simp) (fun j v h=>by simp at h) Q 1 m bk L K (by omega) (by omega) (AF (by omega) (by rw[W];have:=r.2;simp only[ti]at this;exact this));simpa using this
   ·injection hA with hA;subst hA
    refine q (vs:=vs) (old:=c) (by omega) M c0 s0 ?_;have:=Ax (P:=n.P) w T ty e i z hu Y hz ⟨b,o,none⟩ l.length c vs (by rw[G];exact M) r0 Q 1 m bk L K (by omega) (by omega) (AF (by omega) (by rw[W];exact r.2));simpa using this
theorem qX:∀{vs:b5} {e:bl},ct vs=some e→∀{i:Nat} {c:AV},e[i]?=some c→∃v,vs[i]?=some v∧dQ v=some c
 | [],e,h,i,c,d=>by injection h with h;subst h;simp at d
 | v::r,e,h,i,c,d=>by
  unfold ct at h;cases f:dQ v with
  | none=>rw[f]at h;cases h
  | some a =>
   cases g:ct r with
   | none=>rw[f,g]at h;cases h
   | some b =>
    rw[f,g]at h;injection h with h;subst h
    cases i with
    | zero=>simp at d;subst d;exact⟨v,rfl,f⟩
    | succ i=>exact qX g (by simpa using d)
theorem vF(k:ZX.p=false){N:Nat→Prop}{w:World}{ι:Env}{i:Nat}{x:AV}{v:Value}(d:(dt.map cy)[i]?=some x)(h:Rel N w ι x v):v=zc i:=by
 rw[zK]at d;cases j:dt[i]? with
 | none=>rw[j]at d;cases d
 | some c =>
  rw[j]at d;injection d with d;subst d
  obtain⟨u,e,a⟩:=qX fH j;have m:i<aE:=(es.1 e).1;rw[fq m]at e;injection e with e;subst e
  cases c with
  | nils =>
   have p:zc i=.slice none 0 0:=by
    generalize zc i=u at a;unfold dQ at a;split at a<;>first|rfl|(injection a with a;cases a)|cases a
   rw[p];have h:Rel N w ι (.sl []) v:=h;generalize n:([]:List bl)=l at h;cases h with
   | sl0 _ A c g =>
    rcases g with g|⟨rfl,rfl⟩
    ·rw[k]at g;cases g
    ·rfl
   | sl _ _ b o c sz q y s r e j t f =>
    subst n;rcases f.2 with a|a
    ·rw[k]at a;cases a
    ·cases a.1 rfl
  | _=>exact px a h
theorem rP(q:ZX.p=false){N:Nat→Prop}{w:World}{ι:Env}{l:List bl}{zl:bl}(g:zl=dt.map cy){X:Value}(h:Rel N w ι (.sl (l++[zl])) X):
  ∃b o c,X=.slice (some ⟨b,o,none⟩) (l.length+1) c∧∀j,j<aE→w.cell? ⟨b,o+l.length*aE+j,none⟩=some (zc j)∧w.frozen? ⟨b,o+l.length*aE+j,none⟩=false:=by
 have d:(l++[zl]).length=l.length+1:=by simp
 have e:zl.length=aE:=by
  have:=(dh (fun _=>False) w aG fH).len;rw[g,u6,this];rfl
 generalize r:l++[zl]=L at h d;cases h with
 | sl0=>simp at d
 | sl _ _ b o c sz z y C B A s u f =>
  have a:L[l.length]?=some zl:=by rw[←r];simp
  have n:sz=aE:=by rw[←y zl (h6 a)];exact e
  subst n;refine⟨b,o,c,by rw[d],fun j t=>?_⟩;obtain⟨x,p⟩:∃x,zl[j]?=some x:=⟨_,ez (l:=zl) (i:=j) (by rw[e];exact t)⟩;have v:=u _ _ a j _ p;have:=vF q (by rw[←g];exact p) v;refine⟨by rw[s _ _ a j _ p,this],?_⟩;rcases f.2 with k|k
  ·rw[q]at k;cases k
  ·have m:(l.length+1)*aE≤c*aE:=ro _ (by rw[←d];exact f.1);have:=(k.2 rfl b o L.length c rfl (l.length*aE+j) (by rw[sb]at m;omega)).1;rwa[←z4]at this
theorem iJ{a:Act}{d:Option Tmp}{x:Value}{t:Nat}(h:d≠some t):(a.put d x).eval (.tmp t)=a.eval (.tmp t):=by
 cases d with
 | none=>rfl
 | some k =>
  have:k≠t:=fun e=>h (by rw[e]);simp[Act.eval,Act.put,o8,v9 this]
theorem wA{a:Act}{k n:Nat}{x:Value}(c:a.tmps.size=n)(b:k<n):(a.put (some k) x).eval (.tmp k)=x:=by
 simp[Act.eval,Act.put,c,b,o8]
theorem ta{f:Cx}{s:AS}{a:Act}{w:World}{ι:Env}(h:ax f s a w ι){d:Nat}(g:look d s.t=none)(x:Value):ax f s (a.put (some d) x) w ι :=
 ⟨h.hs,h.dfr,by simp[Act.put,h.n],fun k v b=>by
  obtain⟨y,j,i⟩:=h.tmp k v b;refine⟨y,?_,i⟩;have c:d≠k:=fun e=>by subst e;rw[g]at b;cases b
  simp only[Act.put];rw[v9 c];exact j⟩
def zL(p q:Nat):Array Bool := #[true,true,true,true,true,true,true,true,Nat.ble 1 p,Nat.ble 2 p,Nat.ble 1 q,Nat.ble 2 q,Nat.ble 3 q]
def gd:Array Bool := #[true,true,true,true,true,true,true,false,false,false,false,false,false]
def jq(p q:Nat):ck:=(if Nat.ble 2 p then [] else [8+p])++(if Nat.ble 3 q then [] else [10+q])
def sj(ops:Array Oper):Bool:=(Region.ready .any ops gd == [7])&&((List.range 3).all fun p=>(List.range 4).all fun q=>Region.ready .any ops (zL p q) == jq p q)
theorem w5{p q:Nat}(h:p<2):(zL p q).setIfInBounds (8+p) true=zL (p+1) q:=by
 rcases (by omega:p=0∨p=1)with rfl|rfl<;>rfl
theorem t7{p q:Nat}(h:q<3):(zL p q).setIfInBounds (10+q) true=zL p (q+1):=by
 rcases (by omega:q=0∨q=1∨q=2)with rfl|rfl|rfl<;>rfl
theorem xU{m:Cx}{ops:Array Oper}{W:Exit→Act→World→Prop}(hp:ZX.p=false){T e H D bytes:Nat}{y v:Operand}{kd:IntKind}{l:List bl}{zl:bl}(o0:zl=dt.map cy)(ht:iG m.P T=some (e,bytes))(a0:D<m.n)(e0:H≠D)
  (S:Nat→AS) (hS:∀q,q≤3→look H (S q).t=some (.sl (l++[zl]))∧(S q).ev y=some (.int kd l.length)∧(S q).ev v=some (.agg dt)∧look D (S q).t=none)
  (hc:∀q,q<3→∃o,ops[10+q]?=some o∧o.guard=none∧aH m.P m.n (S q) o=some (S (q+1))∧o.dst≠some H∧o.dst≠some D)
  {R U:Oper} (h8:ops[8]?=some R) (g8:R.guard=none) (p8:R.op=.indexAddr T (.tmp H) y) (q8:R.dst=some D)
  (h9:ops[9]?=some U) (g9:U.guard=none) (p9:U.op=.store e (.tmp D) v) (q9:U.dst=none)
  (I:∀p q,p≤2→q≤3→Region.ready .any ops (zL p q)=jq p q) (J:∀a w ι,ax m (S 3) a w ι→W .normal a w) :
  ∀(f p q:Nat),(2-p)+(3-q)=f→p≤2→q≤3→∀a w ι,ax m (S q) a w ι→(1≤p→∀b o n c,a.eval (.tmp H)=.slice (some ⟨b,o,none⟩) n c→a.eval (.tmp D)=.pointer (some ⟨b,o+l.length*aE,none⟩))→wpAnyIn FF 0 m.P .any ops W f (zL p q) a w:=by
 obtain⟨it,zv,hu,hi,hz,Q,q0,p0⟩:=rV ht;intro f
 induction f with
 | zero =>
  intro p q hf s k a w ι A _;have g0:p=2:=by omega
  have h0:q=3:=by omega
  subst g0;subst h0;exact⟨by rw[I 2 3 (by omega) (by omega)];rfl,J a w ι A⟩
 | succ f ih =>
  intro p q hf s k a w ι A hE;refine⟨fun g=>?_,fun i r=>?_⟩
  ·exfalso;rw[I p q s k]at g;unfold jq at g;by_cases Z:p<2
   ·rw[o9 (by simp;omega)]at g;simp at g
   ·rw[o9 (c:=Nat.ble 3 q=true) (by simp;omega)]at g;simp at g
  ·rw[I p q s k]at r;have r0:=(hS q k).1;obtain⟨hl,hy,hv,hd⟩:=hS q k;unfold jq at r;rcases jt.1 r with hm|hm
   ·by_cases Z:Nat.ble 2 p=true
    ·rw[l2 Z]at hm;cases hm
    rw[o9 Z]at hm;have M:p<2:=by simp at Z;omega
    rw[zE]at hm;subst hm;rw[w5 M];have O:=A.ev (x:=.tmp H) hl;obtain⟨b,o,c,hX,h⟩:=rP hp o0 O;rcases (by omega:p=0∨p=1)with rfl|rfl
    ·-- the address
     unfold wpOpIn;simp only[h8];rw[l2 (by simp[Region.wanted,g8])];have m0:=eu A hy;have b0:(Instr.indexAt T (.slice (some ⟨b,o,none⟩) (l.length+1) c) (.int kd l.length)).run m.P w=.ok (.pointer (some ⟨b,o+l.length*aE,none⟩)) w:=by
      have z:(l.length:Int)<((l.length+1:Nat):Int):=by omega
      simp[Instr.indexAt,asIntOf,hF hu,z,sizeOf,typeInfo,hi,Q,v4]
     refine cL ?_;unfold execOp;simp only[p8,hX,m0,b0,mm,v6,n2];show wpAnyIn FF 0 m.P .any ops W f _ (a.put R.dst _) w;rw[q8];refine ih 1 q (by omega) (by omega) k _ _ ι (ta A hd _) fun _ b' o' n' X d=>?_;rw[iJ (fun e=>e0 (by injection e with e;exact e.symm)),hX]at d;injection d with d;injection d with d;injection d with e1 e2;subst e1;subst e2
     exact wA A.n a0
    ·-- the store
     unfold wpOpIn;simp only[h9];rw[l2 (by simp[Region.wanted,g9])];have N:=hE (by omega) b o _ c hX;have l0:a.eval v=.agg bk.toArray:=by
      have I:=A.ev hv;generalize a.eval v=V at I;cases I with
      | agg _ _ vs c0 Y i0=>rw[pk fH c0 i0]
     have C:=run_storeCells_cells (P:=m.P) b (o+l.length*aE) bk 0 w (fun j t=>by rw[zU,(h j t).1];rfl) (fun j t=>by rw[zU];exact(h j t).2) kn;have G:w.setCells b (o+l.length*aE+0) bk=w:=mg _ _ fun j u t=>by
      have z:j<aE:=(es.1 t).1;rw[fq z]at t;injection t with t;subst t
      rw[zU];exact(h j z).1
     rw[G]at C;have k0:(Instr.storeAt e (.pointer (some ⟨b,o+l.length*aE,none⟩)) (.agg bk.toArray)).run m.P w=.ok () w:=by
      have d0:bk.length=it.size:=by rw[Q];rfl
      have hc:(Value.agg bk.toArray).cells=bk.toArray:=rfl;simp[Instr.storeAt,Instr.sureAddr,storeVar,sizeOf,typeInfo,hi,hc,d0,C]
     refine cL ?_;unfold execOp;simp only[p9,N,l0,k0,mm,v6,n2];show wpAnyIn FF 0 m.P .any ops W f _ (a.put U.dst _) w;rw[q9];exact ih 2 q (by omega) (by omega) k _ _ ι A (fun _=>hE (by omega))
   ·by_cases h3:Nat.ble 3 q=true
    ·rw[l2 h3]at hm;cases hm
    rw[o9 h3]at hm;have B:q<3:=by simp at h3;omega
    rw[zE]at hm;subst hm;rw[t7 B];obtain⟨o,ho,hg,ha,K,L⟩:=hc q B;unfold wpOpIn;simp only[ho];rw[l2 (by simp[Region.wanted,hg])];obtain⟨ι',_,g2⟩:=nQ A ha;obtain⟨x,w',E,F⟩|⟨w',E,F⟩:=g2
    ·refine cL ?_;rw[E];refine ih p (q+1) (by omega) s (by omega) _ _ ι' F fun Y b o' n' X d=>?_;rw[iJ K]at d;rw[iJ L];exact hE Y b o' n' X d
    ·refine cL ?_;rw[E];refine ih p (q+1) (by omega) s (by omega) _ _ ι' F fun Y b o' n' X d=>?_;rw[iJ K]at d;rw[iJ L];exact hE Y b o' n' X d
def kY(ops:Array Oper):Bool:=Nat.beq ops.size 13&&(List.range 6).all fun k=>match ops[7+k]? with|some o=>(List.range 7).all fun j=>(bO o).contains j|none=>false
theorem wU(i:Nat):gd[i]?=if i<13 then some (decide (i<7)) else none:=by
 by_cases h:i<13
 ·rw[l2 h];exact(by decide:∀i:Fin 13,gd[i.val]?=some (decide (i.val<7))) ⟨i,h⟩
 ·rw[o9 h];exact Al (by show 13≤i;omega)
section
variable{d:Cx}{ops:Array Oper}{c:List Tag}{K:Nat}{σ:Nat→AS}{f:AS}
theorem bD.xA{H:Exit→Act→World→Prop}(P:Stat ops c K)(R:gu d.P d.n f ops c K σ)(G:c.length=7)(m:kY ops=true)(T:∀a w ι,ax d (σ K) a w ι→wpAnyIn FF 0 d.P .any ops H 6 gd a w):
  ∀(g:Nat) (listed:Array Bool) (a:Act) (w:World) (k:Nat) (ι:Env),ec listed=g→(∀i,7≤i→listed[i]?≠some true)→bD d ops c K σ listed a w k ι→wpAnyIn FF 0 d.P .any ops H g listed a w:=by
 unfold kY at m;rw[fz]at m;obtain⟨y,u⟩:=m;have y:=iN y;have u:∀i o,ops[i]?=some o→7≤i→∀j,j<7→j∈bO o:=fun i o r z j s=>by
  have p:i<13:=by rw[←y];exact(ll.1 r).1
  have:=lp.1 u (i-7) (v8.2 (by omega));rw[show 7+(i-7)=i by omega,r]at this;have:=lp.1 this j (v8.2 s);simpa using this
 have I:∀(listed:Array Bool) (a:Act) (w:World) (k:Nat) (ι:Env),bD d ops c K σ listed a w k ι→(∀i,i<7→listed[i]?=some true)→ax d (σ K) a w ι:=by
  intro listed a w k ι h l;have W:k=K:=by
   have:=h.kK;rcases P.last with h0|⟨i,p⟩
   ·omega
   ·have q:i<7:=by rw[←G];exact(es.1 p).1
    have:=(h.wr i K p).1 (l i q);omega
  subst W;exact⟨h.hs,h.dfr,h.n,fun t v Z=>h.tmp t v Z (fun i o tg _ N _ _=>l i (by rw[←G];exact(es.1 N).1))⟩
 have done:∀(g:Nat) (listed:Array Bool) (a:Act) (w:World) (k:Nat) (ι:Env),ec listed=g→(∀i,7≤i→listed[i]?≠some true)→bD d ops c K σ listed a w k ι→(∀i,i<7→listed[i]?=some true)→wpAnyIn FF 0 d.P .any ops H g listed a w:=by
  intro g listed a w k ι C B h l;have e:listed=gd:=by
   apply AE;intro i;rw[wU];by_cases p:i<13
   ·rw[l2 p];by_cases z:i<7
    ·rw[l i z];simp[z]
    ·have:=B i (by omega);have n:i<listed.size:=by rw[h.sz];omega
     rw[hM n]at this⊢;cases A:listed[i] with
     | true=>rw[A]at this;exact(this rfl).elim
     | false=>simp[z]
   ·rw[o9 p];exact Al (by rw[h.sz];omega)
  have S:g=6:=by rw[←C,e];rfl
  subst e;subst S;exact T a w ι (I _ a w k ι h l)
 intro g
 induction g with
 | zero =>
  intro listed a w k ι C B h;exact absurd (qV C 7 (by rw[h.sz];omega)) (B 7 (by omega))
 | succ g ih =>
  intro listed a w k ι C B h;by_cases l:∀i,i<7→listed[i]?=some true
  ·exact done _ listed a w k ι C B h l
  refine⟨fun Y=>?_,fun i p=>?_⟩
  ·exfalso;refine l fun i=>?_
   induction i using Nat.strongRecOn with
   | _ i O =>
    intro p;have q:i<ops.size:=by omega
    have r:=hM (xs:=ops) q;cases D:listed[i]? with
    | none=>rw[AD,h.sz]at D;omega
    | some b =>
     cases b with
     | true=>rfl
     | false =>
      exfalso;have F:i∈Region.ready .any ops listed:=by
       unfold Region.ready;simp only[Aj,v8,fz,zG];refine⟨q,by rw[o8,D];rfl,?_⟩;rw[r];simp only[us,v7,zX,tl,zG];intro e U;by_cases A:Region.binds .any e=true
       ·right;have s:e.on∈bO ops[i]:=nr.2 ⟨e,U,A,rfl⟩;have E:e.on<i:=P.lex i _ _ r (ez (by rw[G];exact p)) e.on s;rw[o8,O e.on E (by omega)];rfl
       ·left;simpa using A
      rw[Y]at F;cases F
  ·obtain⟨x,o,r,J⟩:=ip p;have M:i<7:=by
    by_cases z:i<7
    ·exact z
    ·exact(l fun j s=>J j (u i o r (by omega) j s)).elim
   have n:i<listed.size:=by rw[h.sz];exact(ll.1 r).1
   have V:listed[i]?=some false:=by
    rw[hM n]at x⊢;cases A:listed[i] with
    | true=>rw[A]at x;exact(x rfl).elim
    | false=>rfl
   have X:=qI V;refine h.one P R (by rw[G];exact M) p (fun Q w' k' ι' F=>ih _ Q w' k' ι' (by omega) (fun j s L=>?_) F);rcases (b9 n).1 L with e|L
   ·omega
   ·exact B j s L
end
def zT(s:AS)(a b:Nat)(y v:Operand):=(look a s.t,s.ev y,s.ev v,look b s.t)
def zR(kd:IntKind)(l:List bl)(n:Int):Option AV×Option AV×Option AV×Option AV:=(some (AV.sl l),some (AV.int kd n),some (AV.agg dt),none)
theorem wx{m:Cx}{Q:Exit→Act→World→Prop}{ks:b6}{f:Func}{p:ck}{C:AS}{D:List Tag}{α:Type}(enc:α→bl){L:List α}(z:α)(B:List dO)(T e d1 r E:Nat)(x y v:Operand){kd:IntKind}{bytes:Nat}(F:AS→AS)
  (hp:(!ZX.p&&fits (L.length+1) bytes)=true) (h0:∀a,(enc a).length=aE)
  (h3:cg m.P m.n C (bI f p) D 0 (ly C B [] [] []) (aP f p 0) D)
  {s':AS} (r0:aH m.P m.n (bv m.P m.n f p 11 (bv m.P m.n f p 10 ((cZ C B [] [] [] 0).put (some r) (.sl ((L++[z]).map enc))))) (bh f p 12)=some s')
  (h:VE m Q ks .normal (F (bv m.P m.n f p 11 (bv m.P m.n f p 10 ((cZ C B [] [] [] 0).put (some r) (.sl ((L++[z]).map enc)))))))
  (b0:s'=F (bv m.P m.n f p 11 (bv m.P m.n f p 10 ((cZ C B [] [] [] 0).put (some r) (.sl ((L++[z]).map enc))))):=by kernel_rfl)
  (p0:aH m.P m.n ((cZ C B [] [] [] 0).put (some r) (.sl ((L++[z]).map enc))) (bh f p 10)=some (bv m.P m.n f p 10 ((cZ C B [] [] [] 0).put (some r) (.sl ((L++[z]).map enc)))):=by kernel_rfl)
  (q0:aH m.P m.n (bv m.P m.n f p 10 ((cZ C B [] [] [] 0).put (some r) (.sl ((L++[z]).map enc)))) (bh f p 11)=some (bv m.P m.n f p 11 (bv m.P m.n f p 10 ((cZ C B [] [] [] 0).put (some r) (.sl ((L++[z]).map enc))))):=by kernel_rfl)
  (a0:zT ((cZ C B [] [] [] 0).put (some r) (.sl ((L++[z]).map enc))) r E y v=zR kd ((L++[z]).map enc) (L.length:Nat):=by kernel_rfl)
  (a1:zT (bv m.P m.n f p 10 ((cZ C B [] [] [] 0).put (some r) (.sl ((L++[z]).map enc)))) r E y v=zR kd ((L++[z]).map enc) (L.length:Nat):=by kernel_rfl)
  (a2:zT (bv m.P m.n f p 11 (bv m.P m.n f p 10 ((cZ C B [] [] [] 0).put (some r) (.sl ((L++[z]).map enc))))) r E y v=zR kd ((L++[z]).map enc) (L.length:Nat):=by kernel_rfl)
  (a3:zT (F (bv m.P m.n f p 11 (bv m.P m.n f p 10 ((cZ C B [] [] [] 0).put (some r) (.sl ((L++[z]).map enc)))))) r E y v=zR kd ((L++[z]).map enc) (L.length:Nat):=by kernel_rfl)
  (hx:(cZ C B [] [] [] 0).ev x=some (.sl (L.map enc)):=by kernel_rfl) (W:look d1 (cZ C B [] [] [] 0).t=some (.sl [enc z]):=by kernel_rfl)
  (V:enc z=dt.map cy:=by kernel_rfl) (ht:iG m.P T=some (e,bytes):=by kernel_rfl)
  (z0:Nat.ble (r+1) m.n=true:=by kernel_rfl) (A0:Nat.ble (E+1) m.n=true:=by kernel_rfl) (D0:Nat.beq r E=false:=by kernel_rfl)
  (C0:((bI f p).toList.drop 7).all (fun o=>o.guard.isNone)=true:=by kernel_rfl)
  (p7:(bh f p 7).op=.call ⟨.builtin .append,#[x,.tmp d1],#[T,T]⟩:=by kernel_rfl) (q7:(bh f p 7).dst=some r:=by kernel_rfl)
  (p8:(bh f p 8).op=.indexAddr T (.tmp r) y:=by kernel_rfl) (q8:(bh f p 8).dst=some E:=by kernel_rfl)
  (p9:(bh f p 9).op=.store e (.tmp E) v:=by kernel_rfl) (q9:(bh f p 9).dst=none:=by kernel_rfl)
  (g0:((bI f p).toList.drop 10).all (fun o=>match o.dst with|some d=>!Nat.beq d r&&!Nat.beq d E|none=>true)=true:=by kernel_rfl)
  (t:sj (bI f p)=true:=by kernel_rfl) (A:kY (bI f p)=true:=by kernel_rfl)
  (X:gU f p=true:=by kernel_rfl) (hm:m.P.follows .mixedOrders=true:=by kernel_rfl) (H:kx (bI f p) D 0 7=true:=by kernel_rfl) (M:eK (aP f p 0) D B=true:=by kernel_rfl):VE m Q (.c (cat f p)::ks) .normal C:=by
 have e0:aP f p 0=(bI f p).toList:=by simp[aP]
 have K:ZX.p=false∧fits (L.length+1) bytes=true:=by simpa using hp
 have c0:r<m.n:=f6 z0;have d0:E<m.n:=f6 A0;have k0:r≠E:=fun e=>by subst e;simp at D0
 have U:(bI f p).size=13:=by
  unfold kY at A;rw[fz]at A;exact iN A.1
 have at_:∀k,k<13→(bI f p)[k]?=some (bh f p k):=fun k hk=>by
  unfold bh;rw[AG (by rw[oR,U];exact hk)];simp[hM (xs:=bI f p) (i:=k) (by omega)]
 have mem_:∀n k,n≤k→k<13→bh f p k∈(bI f p).toList.drop n:=fun n k W h2=>by
  refine h6 (i:=k-n) ?_;rw[pl,show n+(k-n)=k by omega,v5];exact at_ k h2
 have Y:∀k,7≤k→k<13→(bh f p k).guard=none:=fun k W h2=>by
  have:=lp.1 C0 _ (mem_ 7 k W h2);simpa using this
 have R:∀k,10≤k→k<13→(bh f p k).dst≠some r∧(bh f p k).dst≠some E:=fun k W h2=>by
  have:=lp.1 g0 _ (mem_ 10 k W h2);constructor<;>intro e<;>rw[e]at this<;>simp at this
 cases O:cat f p with
 | region id ops b =>
  cases b with
  | false=>unfold gU at X;rw[O]at X;cases X
  | true =>
   have N:bI f p=ops:=by unfold bI;rw[O];rfl
   rw[e0]at h3 M;generalize t0:cZ C B [] [] [] 0=S7 at *;generalize v0:S7.put (some r) (.sl ((L++[z]).map enc))=S8 at *;generalize G0:bv m.P m.n f p 10 S8=S9 at *;generalize F0:bv m.P m.n f p 11 S9=Z at *;subst b0;have zo:∀{s:AS},zT s r E y v=zR kd ((L++[z]).map enc) (L.length:Nat)→look r s.t=some (.sl (L.map enc++[enc z]))∧s.ev y=some (.int kd (L.map enc).length)∧s.ev v=some (.agg dt)∧look E s.t=none:=fun {s} h=>by
    unfold zT zR at h;simp only[nw]at h;exact⟨by rw[h.1];simp,by rw[h.2.1,u6],h.2.2.1,h.2.2.2⟩
   intro a w ι o0;obtain⟨st,i0,_⟩:=mw H rfl;have dy:=pB (P:=m.P) (n:=m.n) D 0 B [] [] (ly C B [] [] []) M rfl rfl rfl h3;rw[N]at st dy A t;have S:Region.ready .any ops gd=[7]∧∀p q,p≤2→q≤3→Region.ready .any ops (zL p q)=jq p q:=by
    unfold sj at t;rw[fz]at t;refine⟨by simpa using t.1,fun p q hp hq=>?_⟩;have:=lp.1 (lp.1 t.2 p (v8.2 (by omega))) q (v8.2 (by omega));simpa using this
   refine wpIn_region_any hm (bD.xA st dy i0 A (fun a w ι H=>?_) ops.size _ a _ 0 ι (by simp[ec]) (fun i _ hh=>?_) (bD.start st dy o0))
   ·-- the append
    have H:ax m S7 a w ι:=by rw[←t0];exact H
    refine⟨fun hr=>(by rw[S.1]at hr;cases hr),fun i hi=>?_⟩;rw[S.1,zE]at hi;subst hi;unfold wpOpIn;rw[←N];simp only[at_ 7 (by omega)];rw[l2 (by simp[Region.wanted,Y 7 (by omega) (by omega)])];obtain⟨b,o,c,hY,I⟩:=rP (l:=[]) K.1 V (H.ev (x:=.tmp d1) W);have x0:∀j u,bk[j]?=some u→w.cell? ((⟨b,o,none⟩:Addr).add j)=some u:=fun j u hj=>by
     have J:j<aE:=(es.1 hj).1;rw[fq J]at hj;injection hj with hj;subst hj
     rw[v4];have:=(I j J).1;simpa using this
    obtain⟨g,off,cap,w2,m0,G,l0,_⟩:=xy (ty:=(bh f p 7).type) K.1 H ht (vf h0) V (H.ev hx) ⟨b,o,none⟩ c x0 (by rw[u6];exact K.2);refine cL ?_;have w0:a.eval (.tmp d1)=.slice (some ⟨b,o,none⟩) 1 c:=hY;simp[execOp,p7,resolve,invoke,builtin,w0,m0,Result.andThen];show wpAnyIn FF 0 m.P .any _ _ 5 _ (a.put (bh f p 7).dst _) w2;rw[q7,N];have E0:ax m S8 (a.put (some r) (.slice (some ⟨g,off,none⟩) (L.length+1) cap)) w2 ι:=by
     rw[←v0];exact(H.world (H.hs.en G) rfl G.size (fun b _ hb=>hb) (fun b J _=>G.block b J) (fun _ _ h=>h)).put (d:=some r) (fun k hk=>by injection hk with hk;subst hk;exact c0) (by simpa using l0)
    have B0:=xU (ops:=ops) (l:=L.map enc) (zl:=enc z) K.1 V ht d0 k0 (fun q=>match q with|0=>S8|1=>S9|2=>Z|_=>F Z)
     (fun q hq=>by
      rcases (by omega:q=0∨q=1∨q=2∨q=3)with rfl|rfl|rfl|rfl
      ·exact zo a0
      ·exact zo a1
      ·exact zo a2
      ·exact zo a3)
     (fun q hq=>by
      rcases (by omega:q=0∨q=1∨q=2)with rfl|rfl|rfl
      ·exact⟨_,by rw[←N];exact at_ 10 (by omega),Y 10 (by omega) (by omega),p0,R 10 (by omega) (by omega)⟩
      ·exact⟨_,by rw[←N];exact at_ 11 (by omega),Y 11 (by omega) (by omega),q0,R 11 (by omega) (by omega)⟩
      ·exact⟨_,by rw[←N];exact at_ 12 (by omega),Y 12 (by omega) (by omega),r0,R 12 (by omega) (by omega)⟩)
     (by rw[←N];exact at_ 8 (by omega)) (Y 8 (by omega) (by omega)) p8 q8 (by rw[←N];exact at_ 9 (by omega)) (Y 9 (by omega) (by omega)) p9 q9 S.2 (fun a w ι H=>h a w ι H)
     5 0 0 rfl (by omega) (by omega) _ _ ι E0 (fun h=>by omega)
    rw[show gd.setIfInBounds 7 true=zL 0 0 from rfl];simpa using B0
   ·rw[zZ]at hh;split at hh<;>cases hh
 | _=>unfold gU at X;rw[O]at X;cases X
end Go.Proofs.Ytkciiamllegclaa

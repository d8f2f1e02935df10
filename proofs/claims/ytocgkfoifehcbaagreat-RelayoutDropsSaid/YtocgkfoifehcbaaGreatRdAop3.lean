/- The operations on abstract values, third part: new variables, literals, len, max, min; all operations in one function. No program in sight. -/
import Derived.Test.YtocgkfoifehcbaaGreatRdAop2
import Derived.Laws.Tables
import Derived.Great.BuildSlice
namespace Go.Proofs.YtocgkfoifehcbaaGreat
set_option linter.all false
open Go.RowKit
abbrev er:=Nat×AV
abbrev hZ:=List ew
abbrev h6:=List c6
def iN:=@Option.bind_some
def ls:=@List.length_cons
def mo:=@List.drop_eq_nil_of_le
def ne:=@List.length_append
def th:=@Option.some.injEq
def yk:=@List.take_succ_eq_append_getElem
def zt:=@List.getElem?_append_left
def z3:=@List.getElem?_append_right
def BY:=@Prod.mk.injEq
def Dj:=@List.take_of_length_le
def IF:=@Nat.zero_add
def IT:=@List.nil_append
def afN:=@List.length_take
def akW:=@Array.toList_map
def akY:=@List.drop_drop
def ala:=@List.foldl_cons
def alQ:=@List.take_append_of_le_length
def al7:=@Array.toList_setIfInBounds
def ami:=@List.set_eq_of_length_le
theorem W1(l:eg):∀(off:Nat) (cs:Array Value),off+l.length≤cs.size →
  ((l.zipIdx off).foldl (fun (a:Array Value) (x:Value×Nat)=>a.setIfInBounds x.2 x.1) cs).toList=cs.toList.take off++l++cs.toList.drop (off+l.length):=by
 induction l with
 | nil=>intro off cs _;simp
 | cons v r e =>
  intro off cs h;simp only[ls]at h;simp only[List.zipIdx_cons,ala];rw[e (off+1) _ (by simp;omega)];simp only[al7,ls];have b:off<cs.toList.length:=by simp;omega
  have c:(cs.toList.set off v).take (off+1)=cs.toList.take off++[v]:=by
   rw[yk (by simpa using b),List.take_set,ami (by rw[afN];omega)];simp
  have d:(cs.toList.set off v).drop (off+1+r.length)=cs.toList.drop (off+(r.length+1)):=by
   rw[List.drop_set,lp (by omega)];congr 1;omega
  rw[c,d];simp
theorem Po(cs f:Array Value)(off:Nat)(h:off+f.size≤cs.size):
  (f.zipIdx.foldl (fun (a:Array Value) (x:Value×Nat)=>a.setIfInBounds (off+x.2) x.1) cs)=(cs.toList.take off++f.toList++cs.toList.drop (off+f.toList.length)).toArray:=by
 have e:=W1 f.toList off cs (by simpa using h);rw[←Array.foldl_toList];simp only[Array.toList_zipIdx];have key:∀(l:eg) (k:Nat) (a:Array Value),(l.zipIdx k).foldl (fun (a:Array Value) (x:Value×Nat)=>a.setIfInBounds (off+x.2) x.1) a=(l.zipIdx (off+k)).foldl (fun (a:Array Value) (x:Value×Nat)=>a.setIfInBounds x.2 x.1) a:=by
  intro l
  induction l with
  | nil=>intro k a;rfl
  | cons v r b=>intro k a;simp only[List.zipIdx_cons,ala];rw[b];rfl
 grind
def A5(pl:hZ)(cs:c6):List er→Option c6
 | []=>some cs
 | (i,v)::r=>match pl[i]?,jR v with
  | some (off,sz),some a=>if a.length=sz∧off+a.length≤cs.length then A5 pl (jn off a cs) r else none
  | _,_=>none
def lD(s:AS):List (Nat×Operand)→Option (List er)
 | []=>some []
 | (i,x)::r=>match s.ev x,lD s r with|some v,some l=>some ((i,v)::l)|_,_=>none
theorem KR{N:Nat→Prop}{w:World}{ι:Env}{pl:hZ}{a:Nat→Option ew}(g:∀i l,pl[i]?=some l→a i=some l):∀{ps:List er} {qs:List (Nat×Value)} {cs b:c6} {zs:Array Value},Cells N w ι cs zs.toList →
  ps.length=qs.length→(∀(i:Nat) (p:Nat×AV) (q:Nat×Value),ps[i]?=some p→qs[i]?=some q→p.1=q.1∧Rel N w ι p.2 q.2)→A5 pl cs ps=some b→∃d,Instr.fill a zs qs=some d∧Cells N w ι b d.toList
 | [],[],cs,b,zs,m,_,_,h=>by injection h with h;subst h;exact⟨zs,rfl,m⟩
 | [],_::_,_,_,_,_,f,_,_=>by simp at f
 | _::_,[],_,_,_,_,f,_,_=>by simp at f
 | (i,v)::ps,(j,x)::qs,cs,b,zs,m,f,B,h=>by
  obtain⟨y,z⟩:=B 0 (i,v) (j,x) rfl rfl;simp only[]at y z;subst y;simp only[A5]at h;cases c:pl[i]? with
  | none=>rw[c]at h;cases h
  | some l =>
   have E:=g i l c;obtain⟨off,sz⟩:=l;cases u:jR v with
   | none=>rw[c,u]at h;cases h
   | some F =>
    rw[c,u]at h;simp only[]at h;split at h
    ·rename_i e;have A:=AJ u z;have n:=m.len;have o:=A.len;simp only[If]at n o;have t:=m.jn A e.2;obtain⟨d,C,D⟩:=KR g (zs:=(zs.toList.take off++x.cells.toList++zs.toList.drop (off+x.cells.toList.length)).toArray) (by simpa using t) (by simpa using f) (fun k p q r s=>B (k+1) p q (by simpa using r) (by simpa using s)) h;refine⟨d,?_,D⟩;unfold Instr.fill;rw[E];simp only[];rw[kc (by simp;omega),Po zs x.cells off (by omega)];exact C
    ·cases h
theorem Cj{g:Cx}{s:AS}{a:Act}{w:World}{ι:Env}(h:aV g s a w ι):∀{ps:List (Nat×Operand)} {l:List er},lD s ps=some l→l.length=(ps.map fun y=>(y.1,a.eval y.2)).length ∧
  ∀(i:Nat) (p:Nat×AV) (q:Nat×Value),l[i]?=some p→(ps.map fun y=>(y.1,a.eval y.2))[i]?=some q→p.1=q.1∧Rel (NN g.M ι) w ι p.2 q.2
 | [],l,e=>by injection e with e;subst e;exact⟨rfl,fun i p q b _=>by simp at b⟩
 | (i,x)::r,l,e=>by
  unfold lD at e;cases c:s.ev x with
  | none=>rw[c]at e;cases e
  | some v =>
   cases d:lD s r with
   | none=>rw[c,d]at e;cases e
   | some l' =>
    rw[c,d]at e;injection e with e;subst e
    obtain⟨j,m⟩:=Cj h d;refine⟨by simp at j;simp[j],fun k p q b f=>?_⟩;cases k with
    | zero=>simp at b f;subst b;subst f;exact⟨rfl,h.ev c⟩
    | succ k=>exact m k p q (by simpa using b) (by simpa using f)
def sA(P:Program)(s:AS)(T:TypeId)(parts:List (Nat×Operand)):Option AV :=
 match Jn P T,ey P T,lD s parts with
 | some pl,some z,some ps=>(A5 pl z ps).map .agg
 | _,_,_=>none
theorem ah5{b:Cx}{s:AS}{a:Act}{w:World}{ι:Env}(q:aV b s a w ι){T:TypeId}{parts:Array (Nat×Operand)}{v:AV}(h:sA b.P s T parts.toList=some v):
  ∃x,(Instr.build T (parts.map fun (i,x)=>(i,a.eval x))).run b.P w=.ok x w∧Rel (NN b.M ι) w ι v x:=by
 unfold sA at h;cases c:Jn b.P T with
 | none=>rw[c]at h;cases h
 | some pl =>
  cases m:ey b.P T with
  | none=>rw[c,m]at h;cases h
  | some z =>
   cases B:lD s parts.toList with
   | none=>rw[c,m,B]at h;cases h
   | some ps =>
    simp only[c,m,B]at h;cases t:A5 pl z ps with
    | none=>simp[t]at h
    | some cs =>
     simp only[t,aa3,th]at h;subst h;obtain⟨D,E⟩:=Cj q B;unfold ey at m;cases g:b.P.info? T with
     | none=>simp[g]at m
     | some J =>
      cases o:J.zero with
      | none=>simp[g,o]at m
      | some F =>
       simp only[g,iN,o]at m;have H:(parts.map fun (y:Nat×Operand)=>(y.1,a.eval y.2)).toList=parts.toList.map fun y=>(y.1,a.eval y.2):=akW;have A:∃j,b.P.built T (parts.map fun (y:Nat×Operand)=>(y.1,a.eval y.2)).toList=some j∧Cells (NN b.M ι) w ι cs j.toList:=by
        rw[H];unfold Program.built;unfold Jn at c;cases r:b.P.underlying T with
        | none=>simp[r]at c
        | some d =>
         cases d<;>try (simp[r]at c;done)
         case array n e =>
          cases p:b.P.info? e with
          | none=>simp[r,cr,p]at c
          | some L =>
           simp only[r,cr,p,aa3,th]at c;subst c;simp only[g,o,p];refine KR (fun i K hi=>?_) (zs:=F.cells) (lj (NN b.M ι) w ι m) D E t;rw[Do]at hi;cases C:(List.range n)[i]? with
           | none=>rw[C]at hi;cases hi
           | some k =>
            rw[C]at hi;injection hi with hi;subst hi
            have:=(jt.1 C).2;simp at this;subst this;rfl
         case struct l =>
          simp only[r,cr,Option.map_map]at c;have I:l.toList.mapM (fun f=>(b.P.info? f.type).map fun i=>(f.offset,i.size))=some pl:=c;simp only[g,o,I];exact KR (fun i K hi=>by simpa using hi) (zs:=F.cells) (lj (NN b.M ι) w ι m) D E t
       obtain⟨j,G,u⟩:=A;refine⟨_,run_build w T _ j G,?_⟩;have:=Rel.agg (N:=NN b.M ι) (w:=w) ι cs j.toList u.len u.one u.rel;simpa using this
def fT:AV→AV
 | .nils=>.sl []
 | v=>v
theorem ahC{N}{w}{ι}{v}{x}(h:Rel N w ι v x):Rel N w ι (fT v) x:=by
 cases h<;>first|grind|(constructor<;>assumption)
theorem Cells.pz{N}{w}{ι}{cs}{vs}(h:Cells N w ι cs vs):Cells N w ι (cs.map fT) vs :=
 ⟨by simpa using h.len,h.one,fun i x v a b=>by
  rw[Do]at a;cases e:cs[i]? with
  | none=>grind
  | some c=>rw[e]at a;injection a with a;subst a;exact ahC (h.rel i c v e b)⟩
def ac7:Nat:=900000
def rY(z:Bool)(cs:c6):c6:=match z with
 | true=>cs
 | false=>cs.map fT
theorem Cells.rY{N}{w}{ι}{cs}{vs}(h:Cells N w ι cs vs) z:Cells N w ι (rY z cs) vs:=by
 cases z
 ·exact h.pz
 ·exact h
theorem aj7 z cs:(rY z cs).length=cs.length:=by cases z<;>simp[rY]
def Ak(z:Bool)(sz k:Nat):List er→Option h6
 | []=>some []
 | (i,v)::r=>match jR v,Ak z sz (k+1) r with
  | some a,some l=>if i=k∧a.length=sz∧dV [] a=true then some (rY z a::l) else none
  | _,_=>none
theorem K3{N:Nat→Prop}{w:World}{ι:Env}{sz:Nat}{z:Bool}:∀{ps:List er} {qs:List (Nat×Value)} {k:Nat} {zs:Array Value} {l:h6},
  ps.length=qs.length→(∀(i:Nat) (p:Nat×AV) (q:Nat×Value),ps[i]?=some p→qs[i]?=some q→p.1=q.1∧Rel N w ι p.2 q.2)→Ak z sz k ps=some l→(k+ps.length)*sz≤zs.size →
  ∃a n,Instr.fill (fun i=>some (i*sz,sz)) zs qs=some a∧a.toList=zs.toList.take (k*sz)++n++zs.toList.drop ((k+ps.length)*sz)∧n.length=ps.length*sz∧l.length=ps.length∧(∀e∈l,e.length=sz)∧(∀y∈n,y.oneCell'=true) ∧
   (∀(j:Nat) (e:c6),l[j]?=some e→∀(i:Nat) (x:AV),e[i]?=some x→∃v,n[j*sz+i]?=some v∧Rel N w bH x v)
 | [],[],k,zs,l,_,_,h,_=>by
  injection h with h;subst h
  exact⟨zs,[],rfl,by simp,by simp,rfl,fun e he=>(by cases he),fun y g=>(by cases g),fun j e he=>by simp at he⟩
 | [],_::_,_,_,_,r,_,_,_=>by simp at r
 | _::_,[],_,_,_,r,_,_,_=>by simp at r
 | (i,v)::ps,(j,x)::qs,k,zs,l,r,J,h,K=>by
  obtain⟨H,I⟩:=J 0 (i,v) (j,x) rfl rfl;simp only[]at H I;subst H;simp only[Ak]at h;cases t:jR v with
  | none=>rw[t]at h;cases h
  | some nv =>
   cases f:Ak z sz (k+1) ps with
   | none=>rw[t,f]at h;cases h
   | some l' =>
    rw[t,f]at h;simp only[]at h;split at h
    ·rename_i b;obtain⟨rfl,O,P⟩:=b;injection h with h;subst h
     have A:=AJ t I;have B:=A.len;simp only[If]at B;simp only[ls]at K r;have s:(i+1+ps.length)*sz≤zs.size:=by rw[show i+1+ps.length=i+(ps.length+1) by omega];exact K
     have X:(i+1)*sz=i*sz+sz:=by rw[ajK,ak9]
     have Y:(i+1)*sz≤zs.size:=RX (IN _ (by omega)) s;have F:(zs.toList.take (i*sz)++x.cells.toList++zs.toList.drop (i*sz+x.cells.toList.length)).toArray.size=zs.size:=by
      rw[amh,o9 _ _ _ (by simp;omega),If]
     obtain⟨a,n,Q,R,S,T,U,V,W⟩:=K3 (zs:=(zs.toList.take (i*sz)++x.cells.toList++zs.toList.drop (i*sz+x.cells.toList.length)).toArray) (ps:=ps) (qs:=qs) (k:=i+1) (by omega)
      (fun k p q C D=>J (k+1) p q (by simpa using C) (by simpa using D)) f (by rw[F];exact s)
     refine⟨a,x.cells.toList++n,?_,?_,?_,by simp[T],?_,?_,?_⟩
     ·unfold Instr.fill;simp only[];rw[kc (by simp;omega),Po zs x.cells (i*sz) (by omega)];exact Q
     ·rw[R];have Z:x.cells.toList.length=sz:=by simp;omega
      have t1:(zs.toList.take (i*sz)).length=i*sz:=by rw[afN,If];omega
      have L:((zs.toList.take (i*sz)++x.cells.toList++zs.toList.drop (i*sz+x.cells.toList.length)).toArray.toList).take ((i+1)*sz)=zs.toList.take (i*sz)++x.cells.toList:=by
       rw[alQ (by rw[ne];omega)];rw[Dj (by rw[ne];omega)]
      have M:((zs.toList.take (i*sz)++x.cells.toList++zs.toList.drop (i*sz+x.cells.toList.length)).toArray.toList).drop ((i+1+ps.length)*sz)=zs.toList.drop ((i+(ps.length+1))*sz):=by
       have hm:(i+1+ps.length)*sz=(i+1)*sz+ps.length*sz:=by rw[ajK]
       rw[List.drop_append,mo (by rw[ne];omega),IT,akY,ne,t1,Z];congr 1;rw[show i+(ps.length+1)=i+1+ps.length by omega];omega
      rw[L,M];simp
     ·rw[ne,S,ls,ajK,ak9,If];omega
     ·intro e he;rcases ol.1 he with rfl|he
      ·rw[aj7];exact O
      ·exact U e he
     ·intro y g;rcases n5.1 g with g|g
      ·exact A.one y g
      ·exact V y g
     ·intro j e he m c u;cases j with
      | zero =>
       simp at he;subst he;have o:=(A.Sg P bH).rY z;have d:m<x.cells.toList.length:=by have:=(jt.1 u).1;rw[o.len]at this;exact this
       refine⟨x.cells.toList[m],?_,o.rel m c _ u (j3 d)⟩;rw[Nat.zero_mul,IF,zt d,j3 d]
      | succ j =>
       simp at he;obtain⟨v',G,E⟩:=W j e he m c u;refine⟨v',?_,E⟩;rw[z3 (by rw[ajK,ak9,If];omega),If,ajK,ak9];rw[show j*sz+sz+m - x.cells.size=j*sz+m by omega];exact G
    ·cases h
def oE(P:Program)(s:AS)(T:TypeId)(a:Nat)(parts:List (Nat×Operand)):Option AV :=
 match gA P T,lD s parts with
 | some (e,sz+1),some ps=>match Ak (s.u.contains ac7) (sz+1) 0 ps with
  | some l=>if ps.length=a∧0<a∧a*(sz+1)≤16777216∧(ey P e).isSome=true then some (.sl l) else none
  | none=>none
 | _,_=>none
theorem X5{k:Cx}{s:AS}{a:Act}{w:World}{ι:Env}(c:aV k s a w ι){T:TypeId}{f:Nat}{parts:Array (Nat×Operand)}{v:AV}(h:oE k.P s T f parts.toList=some v):
  ∃x w',(Instr.buildSlice T f (parts.map fun (i,x)=>(i,a.eval x))).run k.P w=.ok x w'∧aV k s a w' ι∧Rel (NN k.M ι) w' ι v x:=by
 unfold oE at h;split at h
 ·rename_i e sz ps d C;split at h
  ·rename_i l L;split at h
   ·rename_i m;obtain⟨c1,F,S,D⟩:=m;injection h with h;subst h
    obtain⟨O,Q⟩:=Cj c C;unfold gA at d;split at d
    ·rename_i t M;cases g:k.P.info? t with
     | none=>simp[cr,g]at d
     | some q =>
      simp only[cr,g,aa3,th,BY]at d;obtain⟨rfl,n⟩:=d;unfold ey at D;cases p:q.zero with
      | none=>simp[g,p]at D
      | some z =>
       have B:(parts.map fun (y:Nat×Operand)=>(y.1,a.eval y.2)).toList=parts.toList.map fun y=>(y.1,a.eval y.2):=akW;obtain⟨r,R,u,G,U,H,I,J,K⟩:=K3 (zs:=(Array.range (f*q.size)).map (z.cells[· % z.cells.size]!)) O Q L (by simp[c1,n]);rw[←B]at u;have N:r.toList=R:=by
        rw[G,c1];simp[n]
       have j:q.size=sz+1:=n;rw[←j]at u;have E:0<f*q.size:=Nat.mul_pos F (by omega);have o:=run_buildSlice (P:=k.P) w T t f (parts.map fun (y:Nat×Operand)=>(y.1,a.eval y.2)) r q z M g p (by rw[j];omega) (by omega) u;refine⟨_,_,o,?_,?_⟩
       ·exact c.world (c.hs.fresh _) rfl (by simp) (fun b _ A=>A) (fun b A _=>u7 _ _ _ A) (fun _ _ h=>h)
       ·have:=Rn (T:=t) c.hs I J K;rw[H,c1,← N]at this;simpa using this
    ·cases d
   ·cases h
  grind
 grind
end Go.Proofs.YtocgkfoifehcbaaGreat

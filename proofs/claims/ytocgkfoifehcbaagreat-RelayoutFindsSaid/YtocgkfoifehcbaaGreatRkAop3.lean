/- The operations on abstract values, third part: new variables, literals, len, max, min; all operations in one function. No program in sight. -/
import Derived.Test.YtocgkfoifehcbaaGreatRkAop2
import Derived.Laws.Tables
import Derived.Great.BuildSlice
namespace Go.Proofs.YtocgkfoifehcbaaGreat
set_option linter.all false
open Go.RowKit
abbrev eq:=Nat×AV
abbrev hH:=List es
abbrev hZ:=List c6
def iF:=@Option.bind_some
def lp:=@List.length_cons
def l3:=@List.drop_eq_nil_of_le
def nw:=@List.length_append
def rv:=@Option.some.injEq
def w3:=@Prod.mk.injEq
def z3:=@List.getElem?_append_left
def Db:=@List.nil_append
def Dj:=@List.getElem?_append_right
def Dy:=@Nat.zero_add
def Dz:=@List.take_of_length_le
def MO:=@List.take_succ_eq_append_getElem
def ajN:=@List.length_take
def aj6:=@Array.toList_map
def akA:=@List.foldl_cons
def akJ:=@List.drop_drop
def alE:=@Array.toList_setIfInBounds
def alP:=@List.set_eq_of_length_le
theorem aeT(l:ee):∀(off:Nat) (cs:Array Value),off+l.length≤cs.size →
  ((l.zipIdx off).foldl (fun (a:Array Value) (x:Value×Nat)=>a.setIfInBounds x.2 x.1) cs).toList=cs.toList.take off++l++cs.toList.drop (off+l.length):=by
 induction l with
 | nil=>intro off cs _;simp
 | cons v r e =>
  intro off cs h;simp only[lp]at h;simp only[List.zipIdx_cons,akA];rw[e (off+1) _ (by simp;omega)];simp only[alE,lp];have b:off<cs.toList.length:=by simp;omega
  have c:(cs.toList.set off v).take (off+1)=cs.toList.take off++[v]:=by
   rw[MO (by simpa using b),List.take_set,alP (by rw[ajN];omega)];simp
  have d:(cs.toList.set off v).drop (off+1+r.length)=cs.toList.drop (off+(r.length+1)):=by
   rw[List.drop_set,lc (by omega)];congr 1;omega
  rw[c,d];simp
theorem PF(cs f:Array Value)(off:Nat)(h:off+f.size≤cs.size):
  (f.zipIdx.foldl (fun (a:Array Value) (x:Value×Nat)=>a.setIfInBounds (off+x.2) x.1) cs)=(cs.toList.take off++f.toList++cs.toList.drop (off+f.toList.length)).toArray:=by
 have e:=aeT f.toList off cs (by simpa using h);rw[←Array.foldl_toList];simp only[Array.toList_zipIdx];have key:∀(l:ee) (k:Nat) (a:Array Value),(l.zipIdx k).foldl (fun (a:Array Value) (x:Value×Nat)=>a.setIfInBounds (off+x.2) x.1) a=(l.zipIdx (off+k)).foldl (fun (a:Array Value) (x:Value×Nat)=>a.setIfInBounds x.2 x.1) a:=by
  intro l
  induction l with
  | nil=>intro k a;rfl
  | cons v r b=>intro k a;simp only[List.zipIdx_cons,akA];rw[b];rfl
 grind
def yA(pl:hH)(cs:c6):List eq→Option c6
 | []=>some cs
 | (i,v)::r=>match pl[i]?,ke v with
  | some (off,sz),some a=>if a.length=sz∧off+a.length≤cs.length then yA pl (ja off a cs) r else none
  | _,_=>none
def kY(s:AS):List (Nat×Operand)→Option (List eq)
 | []=>some []
 | (i,x)::r=>match s.ev x,kY s r with|some v,some l=>some ((i,v)::l)|_,_=>none
theorem F5{N:Nat→Prop}{w:World}{ι:Env}{pl:hH}{a:Nat→Option es}(g:∀i l,pl[i]?=some l→a i=some l):∀{ps:List eq} {qs:List (Nat×Value)} {cs b:c6} {zs:Array Value},Cells N w ι cs zs.toList →
  ps.length=qs.length→(∀(i:Nat) (p:Nat×AV) (q:Nat×Value),ps[i]?=some p→qs[i]?=some q→p.1=q.1∧Rel N w ι p.2 q.2)→yA pl cs ps=some b→∃d,Instr.fill a zs qs=some d∧Cells N w ι b d.toList
 | [],[],cs,b,zs,m,_,_,h=>by injection h with h;subst h;exact⟨zs,rfl,m⟩
 | [],_::_,_,_,_,_,f,_,_=>by simp at f
 | _::_,[],_,_,_,_,f,_,_=>by simp at f
 | (i,v)::ps,(j,x)::qs,cs,b,zs,m,f,B,h=>by
  obtain⟨y,z⟩:=B 0 (i,v) (j,x) rfl rfl;simp only[]at y z;subst y;simp only[yA]at h;cases c:pl[i]? with
  | none=>rw[c]at h;cases h
  | some l =>
   have E:=g i l c;obtain⟨off,sz⟩:=l;cases u:ke v with
   | none=>rw[c,u]at h;cases h
   | some F =>
    rw[c,u]at h;simp only[]at h;split at h
    ·rename_i e;have A:=As u z;have n:=m.len;have o:=A.len;simp only[If]at n o;have t:=m.ja A e.2;obtain⟨d,C,D⟩:=F5 g (zs:=(zs.toList.take off++x.cells.toList++zs.toList.drop (off+x.cells.toList.length)).toArray) (by simpa using t) (by simpa using f) (fun k p q r s=>B (k+1) p q (by simpa using r) (by simpa using s)) h;refine⟨d,?_,D⟩;unfold Instr.fill;rw[E];simp only[];rw[kb (by simp;omega),PF zs x.cells off (by omega)];exact C
    ·cases h
theorem CL{g:Cx}{s:AS}{a:Act}{w:World}{ι:Env}(h:aU g s a w ι):∀{ps:List (Nat×Operand)} {l:List eq},kY s ps=some l→l.length=(ps.map fun y=>(y.1,a.eval y.2)).length ∧
  ∀(i:Nat) (p:Nat×AV) (q:Nat×Value),l[i]?=some p→(ps.map fun y=>(y.1,a.eval y.2))[i]?=some q→p.1=q.1∧Rel (NN g.M ι) w ι p.2 q.2
 | [],l,e=>by injection e with e;subst e;exact⟨rfl,fun i p q b _=>by simp at b⟩
 | (i,x)::r,l,e=>by
  unfold kY at e;cases c:s.ev x with
  | none=>rw[c]at e;cases e
  | some v =>
   cases d:kY s r with
   | none=>rw[c,d]at e;cases e
   | some l' =>
    rw[c,d]at e;injection e with e;subst e
    obtain⟨j,m⟩:=CL h d;refine⟨by simp at j;simp[j],fun k p q b f=>?_⟩;cases k with
    | zero=>simp at b f;subst b;subst f;exact⟨rfl,h.ev c⟩
    | succ k=>exact m k p q (by simpa using b) (by simpa using f)
def wg(P:Program)(s:AS)(T:TypeId)(parts:List (Nat×Operand)):Option AV :=
 match FF P T,eZ P T,kY s parts with
 | some pl,some z,some ps=>(yA pl z ps).map .agg
 | _,_,_=>none
theorem aik{b:Cx}{s:AS}{a:Act}{w:World}{ι:Env}(r:aU b s a w ι){T:TypeId}{parts:Array (Nat×Operand)}{v:AV}(h:wg b.P s T parts.toList=some v):
  ∃x,(Instr.build T (parts.map fun (i,x)=>(i,a.eval x))).run b.P w=.ok x w∧Rel (NN b.M ι) w ι v x:=by
 unfold wg at h;cases c:FF b.P T with
 | none=>rw[c]at h;cases h
 | some pl =>
  cases o:eZ b.P T with
  | none=>rw[c,o]at h;cases h
  | some z =>
   cases C:kY s parts.toList with
   | none=>rw[c,o,C]at h;cases h
   | some ps =>
    simp only[c,o,C]at h;cases u:yA pl z ps with
    | none=>simp[u]at h
    | some cs =>
     simp only[u,aaU,rv]at h;subst h;obtain⟨E,F⟩:=CL r C;unfold eZ at o;cases g:b.P.info? T with
     | none=>simp[g]at o
     | some K =>
      cases p:K.zero with
      | none=>simp[g,p]at o
      | some G =>
       simp only[g,iF,p]at o;have I:(parts.map fun (y:Nat×Operand)=>(y.1,a.eval y.2)).toList=parts.toList.map fun y=>(y.1,a.eval y.2):=aj6;have B:∃j,b.P.built T (parts.map fun (y:Nat×Operand)=>(y.1,a.eval y.2)).toList=some j∧Cells (NN b.M ι) w ι cs j.toList:=by
        rw[I];unfold Program.built;unfold FF at c;cases t:b.P.underlying T with
        | none=>simp[t]at c
        | some d =>
         cases d<;>try (simp[t]at c;done)
         case array n e =>
          cases q:b.P.info? e with
          | none=>simp[t,cC,q]at c
          | some M =>
           simp only[t,cC,q,aaU,rv]at c;subst c;simp only[g,p,q];refine F5 (fun i L m=>?_) (zs:=G.cells) (nc (NN b.M ι) w ι o) E F u;rw[AT]at m;cases D:(List.range n)[i]? with
           | none=>rw[D]at m;cases m
           | some k =>
            rw[D]at m;injection m with m;subst m
            have:=(jf.1 D).2;simp at this;subst this;rfl
         case struct l =>
          simp only[t,cC,Option.map_map]at c;have J:l.toList.mapM (fun f=>(b.P.info? f.type).map fun i=>(f.offset,i.size))=some pl:=c;simp only[g,p,J];exact F5 (fun i L m=>by simpa using m) (zs:=G.cells) (nc (NN b.M ι) w ι o) E F u
       obtain⟨j,H,A⟩:=B;refine⟨_,run_build w T _ j H,?_⟩;have:=Rel.agg (N:=NN b.M ι) (w:=w) ι cs j.toList A.len A.one A.rel;simpa using this
def jg:AV→AV
 | .nils=>.sl []
 | v=>v
theorem agz{N}{w}{ι}{v}{x}(h:Rel N w ι v x):Rel N w ι (jg v) x:=by
 cases h<;>first|grind|(constructor<;>assumption)
theorem Cells.pz{N}{w}{ι}{cs}{vs}(h:Cells N w ι cs vs):Cells N w ι (cs.map jg) vs :=
 ⟨by simpa using h.len,h.one,fun i x v a b=>by
  rw[AT]at a;cases e:cs[i]? with
  | none=>grind
  | some c=>rw[e]at a;injection a with a;subst a;exact agz (h.rel i c v e b)⟩
def ai2:Nat:=900000
def vt(z:Bool)(cs:c6):c6:=match z with
 | true=>cs
 | false=>cs.map jg
theorem Cells.vt{N}{w}{ι}{cs}{vs}(h:Cells N w ι cs vs) z:Cells N w ι (vt z cs) vs:=by
 cases z
 ·exact h.pz
 ·exact h
theorem agT z cs:(vt z cs).length=cs.length:=by cases z<;>simp[vt]
def yw(z:Bool)(sz k:Nat):List eq→Option hZ
 | []=>some []
 | (i,v)::r=>match ke v,yw z sz (k+1) r with
  | some a,some l=>if i=k∧a.length=sz∧dW [] a=true then some (vt z a::l) else none
  | _,_=>none
theorem IZ{N:Nat→Prop}{w:World}{ι:Env}{sz:Nat}{z:Bool}:∀{ps:List eq} {qs:List (Nat×Value)} {k:Nat} {zs:Array Value} {l:hZ},
  ps.length=qs.length→(∀(i:Nat) (p:Nat×AV) (q:Nat×Value),ps[i]?=some p→qs[i]?=some q→p.1=q.1∧Rel N w ι p.2 q.2)→yw z sz k ps=some l→(k+ps.length)*sz≤zs.size →
  ∃a n,Instr.fill (fun i=>some (i*sz,sz)) zs qs=some a∧a.toList=zs.toList.take (k*sz)++n++zs.toList.drop ((k+ps.length)*sz)∧n.length=ps.length*sz∧l.length=ps.length∧(∀e∈l,e.length=sz)∧(∀y∈n,y.oneCell'=true) ∧
   (∀(j:Nat) (e:c6),l[j]?=some e→∀(i:Nat) (x:AV),e[i]?=some x→∃v,n[j*sz+i]?=some v∧Rel N w bG x v)
 | [],[],k,zs,l,_,_,h,_=>by
  injection h with h;subst h
  exact⟨zs,[],rfl,by simp,by simp,rfl,fun e he=>(by cases he),fun y g=>(by cases g),fun j e he=>by simp at he⟩
 | [],_::_,_,_,_,r,_,_,_=>by simp at r
 | _::_,[],_,_,_,r,_,_,_=>by simp at r
 | (i,v)::ps,(j,x)::qs,k,zs,l,r,J,h,K=>by
  obtain⟨H,I⟩:=J 0 (i,v) (j,x) rfl rfl;simp only[]at H I;subst H;simp only[yw]at h;cases t:ke v with
  | none=>rw[t]at h;cases h
  | some nv =>
   cases f:yw z sz (k+1) ps with
   | none=>rw[t,f]at h;cases h
   | some l' =>
    rw[t,f]at h;simp only[]at h;split at h
    ·rename_i b;obtain⟨rfl,O,P⟩:=b;injection h with h;subst h
     have A:=As t I;have B:=A.len;simp only[If]at B;simp only[lp]at K r;have s:(i+1+ps.length)*sz≤zs.size:=by rw[show i+1+ps.length=i+(ps.length+1) by omega];exact K
     have X:(i+1)*sz=i*sz+sz:=by rw[akt,akU]
     have Y:(i+1)*sz≤zs.size:=RX (abM _ (by omega)) s;have F:(zs.toList.take (i*sz)++x.cells.toList++zs.toList.drop (i*sz+x.cells.toList.length)).toArray.size=zs.size:=by
      rw[alO,oP _ _ _ (by simp;omega),If]
     obtain⟨a,n,Q,R,S,T,U,V,W⟩:=IZ (zs:=(zs.toList.take (i*sz)++x.cells.toList++zs.toList.drop (i*sz+x.cells.toList.length)).toArray) (ps:=ps) (qs:=qs) (k:=i+1) (by omega)
      (fun k p q C D=>J (k+1) p q (by simpa using C) (by simpa using D)) f (by rw[F];exact s)
     refine⟨a,x.cells.toList++n,?_,?_,?_,by simp[T],?_,?_,?_⟩
     ·unfold Instr.fill;simp only[];rw[kb (by simp;omega),PF zs x.cells (i*sz) (by omega)];exact Q
     ·rw[R];have Z:x.cells.toList.length=sz:=by simp;omega
      have t1:(zs.toList.take (i*sz)).length=i*sz:=by rw[ajN,If];omega
      have L:((zs.toList.take (i*sz)++x.cells.toList++zs.toList.drop (i*sz+x.cells.toList.length)).toArray.toList).take ((i+1)*sz)=zs.toList.take (i*sz)++x.cells.toList:=by
       rw[List.take_append_of_le_length (by rw[nw];omega)];rw[Dz (by rw[nw];omega)]
      have M:((zs.toList.take (i*sz)++x.cells.toList++zs.toList.drop (i*sz+x.cells.toList.length)).toArray.toList).drop ((i+1+ps.length)*sz)=zs.toList.drop ((i+(ps.length+1))*sz):=by
       have hm:(i+1+ps.length)*sz=(i+1)*sz+ps.length*sz:=by rw[akt]
       rw[List.drop_append,l3 (by rw[nw];omega),Db,akJ,nw,t1,Z];congr 1;rw[show i+(ps.length+1)=i+1+ps.length by omega];omega
      rw[L,M];simp
     ·rw[nw,S,lp,akt,akU,If];omega
     ·intro e he;rcases oR.1 he with rfl|he
      ·rw[agT];exact O
      ·exact U e he
     ·intro y g;rcases n5.1 g with g|g
      ·exact A.one y g
      ·exact V y g
     ·intro j e he m c u;cases j with
      | zero =>
       simp at he;subst he;have o:=(A.Qv P bG).vt z;have d:m<x.cells.toList.length:=by have:=(jf.1 u).1;rw[o.len]at this;exact this
       refine⟨x.cells.toList[m],?_,o.rel m c _ u (jt d)⟩;rw[Nat.zero_mul,Dy,z3 d,jt d]
      | succ j =>
       simp at he;obtain⟨v',G,E⟩:=W j e he m c u;refine⟨v',?_,E⟩;rw[Dj (by rw[akt,akU,If];omega),If,akt,akU];rw[show j*sz+sz+m - x.cells.size=j*sz+m by omega];exact G
    ·cases h
def n8(P:Program)(s:AS)(T:TypeId)(a:Nat)(parts:List (Nat×Operand)):Option AV :=
 match gu P T,kY s parts with
 | some (e,sz+1),some ps=>match yw (s.u.contains ai2) (sz+1) 0 ps with
  | some l=>if ps.length=a∧0<a∧a*(sz+1)≤16777216∧(eZ P e).isSome=true then some (.sl l) else none
  | none=>none
 | _,_=>none
theorem Zj{k:Cx}{s:AS}{a:Act}{w:World}{ι:Env}(c:aU k s a w ι){T:TypeId}{f:Nat}{parts:Array (Nat×Operand)}{v:AV}(h:n8 k.P s T f parts.toList=some v):
  ∃x w',(Instr.buildSlice T f (parts.map fun (i,x)=>(i,a.eval x))).run k.P w=.ok x w'∧aU k s a w' ι∧Rel (NN k.M ι) w' ι v x:=by
 unfold n8 at h;split at h
 ·rename_i e sz ps d C;split at h
  ·rename_i l L;split at h
   ·rename_i m;obtain⟨c1,F,S,D⟩:=m;injection h with h;subst h
    obtain⟨O,Q⟩:=CL c C;unfold gu at d;split at d
    ·rename_i t M;cases g:k.P.info? t with
     | none=>simp[cC,g]at d
     | some q =>
      simp only[cC,g,aaU,rv,w3]at d;obtain⟨rfl,n⟩:=d;unfold eZ at D;cases p:q.zero with
      | none=>simp[g,p]at D
      | some z =>
       have B:(parts.map fun (y:Nat×Operand)=>(y.1,a.eval y.2)).toList=parts.toList.map fun y=>(y.1,a.eval y.2):=aj6;obtain⟨r,R,u,G,U,H,I,J,K⟩:=IZ (zs:=(Array.range (f*q.size)).map (z.cells[· % z.cells.size]!)) O Q L (by simp[c1,n]);rw[←B]at u;have N:r.toList=R:=by
        rw[G,c1];simp[n]
       have j:q.size=sz+1:=n;rw[←j]at u;have E:0<f*q.size:=Nat.mul_pos F (by omega);have o:=run_buildSlice (P:=k.P) w T t f (parts.map fun (y:Nat×Operand)=>(y.1,a.eval y.2)) r q z M g p (by rw[j];omega) (by omega) u;refine⟨_,_,o,?_,?_⟩
       ·exact c.world (c.hs.fresh _) rfl (by simp) (fun b _ A=>A) (fun b A _=>u4 _ _ _ A) (fun _ _ h=>h)
       ·have:=Lv (T:=t) c.hs I J K;rw[H,c1,← N]at this;simpa using this
    ·cases d
   ·cases h
  grind
 grind
end Go.Proofs.YtocgkfoifehcbaaGreat

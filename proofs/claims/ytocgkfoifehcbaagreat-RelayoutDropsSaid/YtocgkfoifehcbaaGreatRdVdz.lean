/- A region that draws its order, with one operation behind all others. No program in sight. -/
import Derived.Test.YtocgkfoifehcbaaGreatRdVx
namespace Go.Proofs.YtocgkfoifehcbaaGreat
set_option linter.all false
open Go.RowKit
def l3:=@List.drop_eq_getElem_cons
def mW(ops:Array Oper):Nat→ed→ed
 | 0,S=>S
 | j+1,S=>match S.contains j with
  | true=>mW ops j (S++(match ops[j]? with|some o=>cZ o|none=>[]))
  | false=>mW ops j S
def CC(ops:Array Oper)(z:Nat):Bool:=match ops[z]? with
 | some o=>(Nat.beq (z+1) ops.size&&(cZ o).all fun j=>decide (j<z))&&(List.range z).all fun i=>(mW ops z (cZ o)).contains i
 | none=>false
theorem zC{ops}{listed:Array Bool}(cl:∀(i:Nat) (o:Oper),ops[i]?=some o→listed[i]?=some true→∀j∈cZ o,listed[j]?=some true):∀n S,(∀j∈S,listed[j]?=some true)→∀j∈mW ops n S,listed[j]?=some true
 | 0,S,h,j,a=>h j a
 | n+1,S,h,j,a=>by
  unfold mW at a;split at a
  ·have b:n∈S:=by grind
   refine zC cl n _ (fun i hi=>?_) j a
   grind
  ·exact zC cl n S h j a
section
variable{d:Cx}{ops:Array Oper}{c:es}{K:Nat}{σ:Nat→AS}{g:AS}
theorem dq.Zf{M:Exit→Act→World→Prop}(st:Stat ops c K)(dy:mK d.P d.n g ops c K σ){z:Nat}{oz:Oper}(Q:c.length=z)(y:ops[z]?=some oz)(m:CC ops z=true)(hQ:∀a w ι,aV d (σ K) a w ι→wpList d.P ops M [oz] a w):
  ∀(l:Nat) (listed:Array Bool) (a:Act) (w:World) (k:Nat) (ι:Env),jD listed=l→listed[z]?≠some true→dq d ops c K σ listed a w k ι→wpAny d.P .any ops M l listed a w:=by
 unfold CC at m;rw[y]at m;simp only[iO,n3,q6,ag5]at m;obtain⟨⟨L,W⟩,F⟩:=m;have L:=nx L;have A:∀{listed:Array Bool},(∀(i:Nat) (o:Oper),ops[i]?=some o→listed[i]?=some true→∀j∈cZ o,listed[j]?=some true)→(∀j∈cZ oz,listed[j]?=some true)→∀i,i<z→listed[i]?=some true:=fun cl S i hi =>
  zC cl z _ S i (by simpa using F i hi)
 have R:∀(listed:Array Bool) (a:Act) (w:World) (k:Nat) (ι:Env),dq d ops c K σ listed a w k ι→(∀i,i<z→listed[i]?=some true)→aV d (σ K) a w ι:=by
  intro listed a w k ι h n;have hk:k=K:=by
   have:=h.kK;rcases st.last with h0|⟨i,hi⟩
   ·omega
   ·have V:i<z:=by rw[←Q];exact(jt.1 hi).1
    have:=(h.wr i K hi).1 (n i V);omega
  subst hk;exact⟨h.hs,h.dfr,h.n,fun t v hv=>h.tmp t v hv (fun i o tg _ Y _ _=>n i (by rw[←Q];exact(jt.1 Y).1))⟩
 intro l
 induction l with
 | zero =>
  intro listed a w k ι hl x h;exact absurd (y5 hl z (by rw[h.sz];omega)) x
 | succ l ih =>
  intro listed a w k ι hl x h;refine⟨fun D=>?_,fun i hi=>?_⟩
  ·-- nothing is up: all are listed,the last one too
   exfalso;have key:∀i,i<ops.size→listed[i]?=some true:=by
    intro i
    induction i using Nat.strongRecOn with
    | _ i a0 =>
     intro hi;have p:=ll (xs:=ops) hi;cases G:listed[i]? with
     | none=>rw[alb,h.sz]at G;omega
     | some b =>
      cases b with
      | true=>rfl
      | false =>
       exfalso;have O:i∈Region.ready .any ops listed:=by
        unfold Region.ready;simp only[akN,ag5,iO,acM];refine⟨hi,by rw[v9,G];rfl,?_⟩;rw[p];simp only[aa3,aag,aht,Dk,acM];intro e S;by_cases N:Region.binds .any e=true
        ·right;have C:e.on∈cZ ops[i]:=tV.2 ⟨e,S,N,rfl⟩;have H:e.on<i:=by
          by_cases u:i<z
          ·exact st.lex i _ _ p (j3 (by rw[Q];exact u)) e.on C
          ·have:i=z:=by omega
           subst this;rw[y]at p;injection p with p
           rw[←p]at C;exact W _ C
         rw[v9,a0 e.on H (by omega)];rfl
        ·left;simpa using N
       rw[D]at O;cases O
   exact x (key z (by omega))
  ·obtain⟨B,o,p,T⟩:=lF hi;have s:i<listed.size:=by rw[h.sz];exact(q7.1 p).1
   have hf:listed[i]?=some false:=by
    rw[ll s]at B⊢;cases N:listed[i] with
    | true=>rw[N]at B;exact(B rfl).elim
    | false=>rfl
   have b0:=Aq hf;by_cases u:i=z
   ·subst u;rw[y]at p;injection p with p;subst p
    have n:=A h.cl T;have P:=hQ a w ι (R listed a w k ι h n);have q:∀E w',M .normal E w'→wpAny d.P .any ops M l (listed.setIfInBounds i true) E w':=fun E w' J=>by
     have D:Region.ready .any ops (listed.setIfInBounds i true)=[]:=by
      cases D:Region.ready .any ops (listed.setIfInBounds i true) with
      | nil=>rfl
      | cons j r =>
       exfalso;obtain⟨I,o2,X,_⟩:=lF (ops:=ops) (listed:=listed.setIfInBounds i true) (i:=j) (by rw[D];simp);refine I ((dI s).2 ?_);have:j<ops.size:=(q7.1 X).1;by_cases e:j=i
       ·exact .inl e
       ·exact .inr (n j (by omega))
     cases l with
     | zero=>exact⟨D,J⟩
     | succ f=>exact⟨fun _=>J,fun j C=>by rw[D]at C;cases C⟩
    unfold wpOp;simp only[y];unfold wpList at P;split at P
    ·rename_i Z;rw[lp Z];exact P.imp (Rx q (fun _ _ _ _ h=>h)) (fun h=>h)
    ·rename_i Z;rw[kc Z];exact q _ _ P
   ·refine h.one st dy (by rw[Q];have:=(q7.1 p).1;omega) hi (fun E w' k' ι' O=>ih _ E w' k' ι' (by omega) (fun U=>?_) O);rcases (dI s).1 U with e|U
    ·exact u e.symm
    ·exact x U
end
theorem aaE{i:Cx}{Q:Exit→Act→World→Prop}{F:dt}{f:Func}{p:ed}{k:AS}{c:es}(z K:Nat)(u:il)(l:iF)(t:List (Nat×cj))(x:List (AS→AS))
  (y:fi i.P i.n k (dF f p) K (y4 k u l t x) (aU f p 0) c) (h:OT i Q F (dF f p) (aU f p z) (Q3 k u l t x K))
  (A:m7 f p=true:=by kernel_rfl) (L:i.P.follows .mixedOrders=true:=by kernel_rfl) (v:Bc (dF f p) c K z=true:=by kernel_rfl) (J:oy c K=true:=by kernel_rfl) (e:mX (aU f p 0) c u=true:=by kernel_rfl) (B:jO k.u l=true:=by kernel_rfl) (o:jO k.u t=true:=by kernel_rfl)
  (g:CC (dF f p) z=true:=by kernel_rfl):VE i Q (.c (cat f p)::F) .normal k:=by
 have H:aU f p 0=(dF f p).toList:=by simp[aU]
 cases m:cat f p with
 | region id ops b =>
  cases b with
  | false=>unfold m7 at A;rw[m]at A;cases A
  | true =>
   have D:dF f p=ops:=by unfold dF;rw[m];rfl
   rw[H]at y e;have d:∃s,ops[z]?=some s∧aU f p z=[s]:=by
    unfold CC at g;rw[D]at g;split at g
    ·rename_i s d;refine⟨s,d,?_⟩;simp only[iO]at g;have M:=nx g.1.1;unfold aU;rw[D];rw[l3 (by rw[If];omega),mo (by rw[If];omega)];obtain⟨_,I⟩:=q7.1 d;simp[I]
    ·cases g
   obtain⟨s,d,j⟩:=d;rw[j]at h;rw[D]at y e v h g;intro a w ι r;obtain⟨G,q,_⟩:=D0 v J;have E:=Dh (P:=i.P) (n:=i.n) c K u l t (y4 k u l t x) e B o (by unfold y4;cases x<;>rfl) y;refine amU L (dq.Zf G E q d g (fun a w ι v=>h a w ι v) ops.size _ a _ 0 ι (by simp[jD]) (fun C=>?_) (dq.start G E r));rw[ak1]at C;split at C<;>cases C
 | _=>grind[m7]
end Go.Proofs.YtocgkfoifehcbaaGreat

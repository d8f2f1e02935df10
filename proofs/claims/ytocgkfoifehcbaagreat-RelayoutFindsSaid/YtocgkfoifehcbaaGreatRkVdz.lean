/- A region that draws its order, with one operation behind all others. No program in sight. -/
import Derived.Test.YtocgkfoifehcbaaGreatRkVx
namespace Go.Proofs.YtocgkfoifehcbaaGreat
set_option linter.all false
open Go.RowKit
def ls:=@List.drop_eq_getElem_cons
def nj(ops:Array Oper):Nat→eb→eb
 | 0,S=>S
 | j+1,S=>match S.contains j with
  | true=>nj ops j (S++(match ops[j]? with|some o=>cZ o|none=>[]))
  | false=>nj ops j S
def BL(ops:Array Oper)(z:Nat):Bool:=match ops[z]? with
 | some o=>(Nat.beq (z+1) ops.size&&(cZ o).all fun j=>decide (j<z))&&(List.range z).all fun i=>(nj ops z (cZ o)).contains i
 | none=>false
theorem wR{ops}{listed:Array Bool}(cl:∀(i:Nat) (o:Oper),ops[i]?=some o→listed[i]?=some true→∀j∈cZ o,listed[j]?=some true):∀n S,(∀j∈S,listed[j]?=some true)→∀j∈nj ops n S,listed[j]?=some true
 | 0,S,h,j,a=>h j a
 | n+1,S,h,j,a=>by
  unfold nj at a;split at a
  ·have c:n∈S:=by grind
   refine wR cl n _ (fun i b=>?_) j a
   grind
  ·exact wR cl n S h j a
section
variable{d:Cx}{ops:Array Oper}{c:er}{K:Nat}{σ:Nat→AS}{g:AS}
theorem dp.afX{N:Exit→Act→World→Prop}(st:Stat ops c K)(dy:nt d.P d.n g ops c K σ){z:Nat}{oz:Oper}(R:c.length=z)(A:ops[z]?=some oz)(m:BL ops z=true)(hQ:∀a w ι,aU d (σ K) a w ι→wpList d.P ops N [oz] a w):
  ∀(l:Nat) (listed:Array Bool) (a:Act) (w:World) (k:Nat) (ι:Env),jx listed=l→listed[z]?≠some true→dp d ops c K σ listed a w k ι→wpAny d.P .any ops N l listed a w:=by
 unfold BL at m;rw[A]at m;simp only[iN,ne,q7,aa8]at m;obtain⟨⟨M,X⟩,G⟩:=m;have M:=mo M;have B:∀{listed:Array Bool},(∀(i:Nat) (o:Oper),ops[i]?=some o→listed[i]?=some true→∀j∈cZ o,listed[j]?=some true)→(∀j∈cZ oz,listed[j]?=some true)→∀i,i<z→listed[i]?=some true:=fun cl T i u =>
  wR cl z _ T i (by simpa using G i u)
 have S:∀(listed:Array Bool) (a:Act) (w:World) (k:Nat) (ι:Env),dp d ops c K σ listed a w k ι→(∀i,i<z→listed[i]?=some true)→aU d (σ K) a w ι:=by
  intro listed a w k ι h n;have hk:k=K:=by
   have:=h.kK;rcases st.last with h0|⟨i,u⟩
   ·omega
   ·have W:i<z:=by rw[←R];exact(jf.1 u).1
    have:=(h.wr i K u).1 (n i W);omega
  subst hk;exact⟨h.hs,h.dfr,h.n,fun t v hv=>h.tmp t v hv (fun i o tg _ Z _ _=>n i (by rw[←R];exact(jf.1 Z).1))⟩
 intro l
 induction l with
 | zero =>
  intro listed a w k ι hl y h;exact absurd (AK hl z (by rw[h.sz];omega)) y
 | succ l ih =>
  intro listed a w k ι hl y h;refine⟨fun E=>?_,fun i u=>?_⟩
  ·-- nothing is up: all are listed,the last one too
   exfalso;have key:∀i,i<ops.size→listed[i]?=some true:=by
    intro i
    induction i using Nat.strongRecOn with
    | _ i a0 =>
     intro u;have p:=la (xs:=ops) u;cases H:listed[i]? with
     | none=>rw[akC,h.sz]at H;omega
     | some b =>
      cases b with
      | true=>rfl
      | false =>
       exfalso;have P:i∈Region.ready .any ops listed:=by
        unfold Region.ready;simp only[akB,aa8,iN,By];refine⟨u,by rw[u5,H];rfl,?_⟩;rw[p];simp only[aaU,Ts,adn,Io,By];intro e T;by_cases O:Region.binds .any e=true
        ·right;have D:e.on∈cZ ops[i]:=wH.2 ⟨e,T,O,rfl⟩;have I:e.on<i:=by
          by_cases x:i<z
          ·exact st.lex i _ _ p (jt (by rw[R];exact x)) e.on D
          ·have:i=z:=by omega
           subst this;rw[A]at p;injection p with p
           rw[←p]at D;exact X _ D
         rw[u5,a0 e.on I (by omega)];rfl
        ·left;simpa using O
       rw[E]at P;cases P
   exact y (key z (by omega))
  ·obtain⟨C,o,p,U⟩:=lA u;have s:i<listed.size:=by rw[h.sz];exact(qk.1 p).1
   have hf:listed[i]?=some false:=by
    rw[la s]at C⊢;cases O:listed[i] with
    | true=>rw[O]at C;exact(C rfl).elim
    | false=>rfl
   have b0:=yY hf;by_cases x:i=z
   ·subst x;rw[A]at p;injection p with p;subst p
    have n:=B h.cl U;have Q:=hQ a w ι (S listed a w k ι h n);have q:∀F w',N .normal F w'→wpAny d.P .any ops N l (listed.setIfInBounds i true) F w':=fun F w' L=>by
     have E:Region.ready .any ops (listed.setIfInBounds i true)=[]:=by
      cases E:Region.ready .any ops (listed.setIfInBounds i true) with
      | nil=>rfl
      | cons j r =>
       exfalso;obtain⟨J,o2,Y,_⟩:=lA (ops:=ops) (listed:=listed.setIfInBounds i true) (i:=j) (by rw[E];simp);refine J ((dJ s).2 ?_);have:j<ops.size:=(qk.1 Y).1;by_cases e:j=i
       ·exact .inl e
       ·exact .inr (n j (by omega))
     cases l with
     | zero=>exact⟨E,L⟩
     | succ f=>exact⟨fun _=>L,fun j D=>by rw[E]at D;cases D⟩
    unfold wpOp;simp only[A];unfold wpList at Q;split at Q
    ·rename_i hw;rw[lc hw];exact Q.imp (OB q (fun _ _ _ _ h=>h)) (fun h=>h)
    ·rename_i hw;rw[kb hw];exact q _ _ Q
   ·refine h.one st dy (by rw[R];have:=(qk.1 p).1;omega) u (fun F w' k' ι' P=>ih _ F w' k' ι' (by omega) (fun V=>?_) P);rcases (dJ s).1 V with e|V
    ·exact x e.symm
    ·exact y V
end
theorem ae6{i:Cx}{Q:Exit→Act→World→Prop}{F:dt}{f:Func}{p:eb}{k:AS}{c:er}(z K:Nat)(u:h8)(l:io)(t:List (Nat×co))(x:List (AS→AS))
  (y:fd i.P i.n k (dG f p) K (xo k u l t x) (aV f p 0) c) (h:OT i Q F (dG f p) (aV f p z) (S5 k u l t x K))
  (A:nk f p=true:=by kernel_rfl) (L:i.P.follows .mixedOrders=true:=by kernel_rfl) (v:xW (dG f p) c K z=true:=by kernel_rfl) (J:nL c K=true:=by kernel_rfl) (e:nH (aV f p 0) c u=true:=by kernel_rfl) (B:jC k.u l=true:=by kernel_rfl) (o:jC k.u t=true:=by kernel_rfl)
  (g:BL (dG f p) z=true:=by kernel_rfl):VE i Q (.c (cat f p)::F) .normal k:=by
 have H:aV f p 0=(dG f p).toList:=by simp[aV]
 cases m:cat f p with
 | region id ops b =>
  cases b with
  | false=>unfold nk at A;rw[m]at A;cases A
  | true =>
   have D:dG f p=ops:=by unfold dG;rw[m];rfl
   rw[H]at y e;have d:∃s,ops[z]?=some s∧aV f p z=[s]:=by
    unfold BL at g;rw[D]at g;split at g
    ·rename_i s d;refine⟨s,d,?_⟩;simp only[iN]at g;have M:=mo g.1.1;unfold aV;rw[D];rw[ls (by rw[If];omega),l3 (by rw[If];omega)];obtain⟨_,I⟩:=qk.1 d;simp[I]
    ·cases g
   obtain⟨s,d,j⟩:=d;rw[j]at h;rw[D]at y e v h g;intro a w ι r;obtain⟨G,q,_⟩:=Ea v J;have E:=Cy (P:=i.P) (n:=i.n) c K u l t (xo k u l t x) e B o (by unfold xo;cases x<;>rfl) y;refine aml L (dp.afX G E q d g (fun a w ι v=>h a w ι v) ops.size _ a _ 0 ι (by simp[jx]) (fun C=>?_) (dp.start G E r));rw[aks]at C;split at C<;>cases C
 | _=>grind[nk]
end Go.Proofs.YtocgkfoifehcbaaGreat

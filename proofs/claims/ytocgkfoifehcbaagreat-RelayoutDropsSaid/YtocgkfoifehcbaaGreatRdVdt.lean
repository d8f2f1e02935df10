/- A region that draws its order, with a tail of operations each of which waits for all ahead of it. No program in sight. -/
import Derived.Test.YtocgkfoifehcbaaGreatRdVdz
namespace Go.Proofs.YtocgkfoifehcbaaGreat
set_option linter.all false
open Go.RowKit
def vO(ops:Array Oper)(z:Nat):Bool:=(List.range ops.size).all fun m=>Nat.ble (m+1) z||match ops[m]? with
 | some o=>((cZ o).all fun j=>decide (j<m))&&(List.range m).all fun i=>(mW ops m (cZ o)).contains i
 | none=>false
theorem zL{ops:Array Oper}{z m}{o}(h:vO ops z=true)(c:z≤m)(a:ops[m]?=some o):(∀j∈cZ o,j<m)∧∀i,i<m→i∈mW ops m (cZ o):=by
 unfold vO at h;simp only[n3,ag5,Dk]at h;have b:m<ops.size:=(q7.1 a).1;rcases h m b with h|h
 ·have:=kb h;omega
 simp_all
section
variable{b:Cx}{ops:Array Oper}{c:es}{K:Nat}{σ:Nat→AS}{d:AS}
theorem NU{J:Exit→Act→World→Prop}{z:Nat}(k:vO ops z=true)(B:∀(n:Nat) (o:Oper),n<z→ops[n]?=some o→∀j∈cZ o,j<n):∀(d:Nat) (listed:Array Bool) (a:Act) (w:World) (m:Nat),jD listed=d→z≤m→m≤ops.size→listed.size=ops.size→(∀i,i<ops.size→(listed[i]?=some true↔i<m))→wpList b.P ops J (ops.toList.drop m) a w→wpAny b.P .any ops J d listed a w:=by
 have y:∀(listed:Array Bool) (a:Act) (w:World),(∀i,i<ops.size→listed[i]?=some true)→Region.ready .any ops listed=[]:=by
  intro listed a w A;cases G:Region.ready .any ops listed with
  | nil=>rfl
  | cons j r =>
   exfalso;obtain⟨t,o,x,_⟩:=lF (ops:=ops) (listed:=listed) (i:=j) (by rw[G];simp);exact t (A j (q7.1 x).1)
 intro d
 induction d with
 | zero =>
  intro listed a w m Z hz hm H c s;have R:m=ops.size:=by
   refine aiI fun U=>?_;have:=y5 Z m (by omega);have h2:=(c m (by omega)).1 this;omega
  subst R;have N:ops.toList.drop ops.size=[]:=mo (by simp);rw[N]at s;exact⟨y listed a w (fun i hi=>(c i hi).2 hi),s⟩
 | succ d ih =>
  intro listed a w m Z hz hm H c s;by_cases T:m=ops.size
  ·subst T;have N:ops.toList.drop ops.size=[]:=mo (by simp);rw[N]at s;have G:=y listed a w (fun i hi=>(c i hi).2 hi);exact⟨fun _=>s,fun j f=>by rw[G]at f;cases f⟩
  ·have v:m<ops.size:=by omega
   have x:=ll (xs:=ops) v;obtain⟨C,Y⟩:=zL k hz x;have t:listed[m]?=some false:=by
    have M:m<listed.size:=by omega
    rw[ll M];cases L:listed[m] with
    | false=>rfl
    | true =>
     have:=(c m v).1 (by rw[ll M,L]);omega
   have u:ops.toList.drop m=ops[m]::ops.toList.drop (m+1):=by
    rw[l3 (by rw[If];omega)];simp
   refine⟨fun G=>?_,fun i hi=>?_⟩
   ·exfalso;have D:m∈Region.ready .any ops listed:=by
     unfold Region.ready;simp only[akN,ag5,iO,acM];refine⟨v,by rw[v9,t];rfl,?_⟩;rw[x];simp only[aa3,aag,aht,Dk,acM];intro e he;by_cases L:Region.binds .any e=true
     ·right;have f:e.on∈cZ ops[m]:=tV.2 ⟨e,he,L,rfl⟩;have:=C _ f;rw[v9,(c e.on (by omega)).2 this];rfl
     ·left;simpa using L
    rw[G]at D;cases D
   ·obtain⟨E,o,l,O⟩:=lF hi;have Q:i<ops.size:=(q7.1 l).1;have P:i=m:=by
     have M:¬ i<m:=fun h=>E ((c i Q).2 h);refine aiI fun U=>?_;obtain⟨g1,g2⟩:=zL k (by omega) l
     -- m is among those that i waits for;so m is listed
     have cl:∀(n:Nat) (S:ed),(∀j∈S,j<m)→∀j∈mW ops n S,j<m:=by
      intro n
      induction n with
      | zero=>intro S h j f;exact h j f
      | succ n I =>
       intro S h j f;unfold mW at f;split at f
       ·rename_i hc;have hn:n∈S:=by simpa using hc
        refine I _ (fun q g=>?_) j f;rcases n5.1 g with g|g
        ·exact h q g
        ·split at g
         ·rename_i o' F;have c0:=h n hn
          -- the edges of an operation that is listed: those of n are below n,or listed
          by_cases X:z≤n
          ·have:=(zL k X F).1 q g;omega
          ·have:=B n o' (by omega) F q g;omega
         ·cases g
       ·exact I S h j f
     have:m<m:=cl i _ (fun j f=>by
      have:=O j f;have a0:=g1 j f;exact(c j (by omega)).1 this) m (g2 m (by omega))
     omega
    subst P;have b0:=Aq t;rw[x]at l;injection l with l;subst l
    have p:∀K w',wpList b.P ops J (ops.toList.drop (i+1)) K w'→wpAny b.P .any ops J d (listed.setIfInBounds i true) K w':=fun K w' V=>by
     refine ih _ K w' (i+1) (by omega) (by omega) (by omega) (by simpa using H) (fun j f=>?_) V;rw[dI (by omega)];constructor
     ·rintro (e|h)
      ·omega
      ·have:=(c j f).1 h;omega
     ·intro h;by_cases e:j=i
      ·exact .inl e
      ·exact .inr ((c j f).2 (by omega))
    unfold wpOp;simp only[x];rw[u]at s;unfold wpList at s;split at s
    ·rename_i W;rw[lp W];exact s.imp (Rx p (fun _ _ _ _ h=>h)) (fun h=>h)
    ·rename_i W;rw[kc W];exact p _ _ s
end
end Go.Proofs.YtocgkfoifehcbaaGreat

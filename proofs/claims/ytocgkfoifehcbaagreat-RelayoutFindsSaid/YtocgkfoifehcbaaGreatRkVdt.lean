/- A region that draws its order, with a tail of operations each of which waits for all ahead of it. No program in sight. -/
import Derived.Test.YtocgkfoifehcbaaGreatRkVdz
namespace Go.Proofs.YtocgkfoifehcbaaGreat
set_option linter.all false
open Go.RowKit
def rN(ops:Array Oper)(z:Nat):Bool:=(List.range ops.size).all fun m=>Nat.ble (m+1) z||match ops[m]? with
 | some o=>((cZ o).all fun j=>decide (j<m))&&(List.range m).all fun i=>(nj ops m (cZ o)).contains i
 | none=>false
theorem xU{ops:Array Oper}{z m}{o}(h:rN ops z=true)(c:z≤m)(a:ops[m]?=some o):(∀j∈cZ o,j<m)∧∀i,i<m→i∈nj ops m (cZ o):=by
 unfold rN at h;simp only[ne,aa8,Io]at h;have b:m<ops.size:=(qk.1 a).1;rcases h m b with h|h
 ·have:=j3 h;omega
 simp_all
section
variable{b:Cx}{ops:Array Oper}{c:er}{K:Nat}{σ:Nat→AS}{d:AS}
theorem TN{K:Exit→Act→World→Prop}{z:Nat}(k:rN ops z=true)(C:∀(n:Nat) (o:Oper),n<z→ops[n]?=some o→∀j∈cZ o,j<n):∀(d:Nat) (listed:Array Bool) (a:Act) (w:World) (m:Nat),jx listed=d→z≤m→m≤ops.size→listed.size=ops.size→(∀i,i<ops.size→(listed[i]?=some true↔i<m))→wpList b.P ops K (ops.toList.drop m) a w→wpAny b.P .any ops K d listed a w:=by
 have A:∀(listed:Array Bool) (a:Act) (w:World),(∀i,i<ops.size→listed[i]?=some true)→Region.ready .any ops listed=[]:=by
  intro listed a w B;cases H:Region.ready .any ops listed with
  | nil=>rfl
  | cons j r =>
   exfalso;obtain⟨t,o,y,_⟩:=lA (ops:=ops) (listed:=listed) (i:=j) (by rw[H];simp);exact t (B j (qk.1 y).1)
 intro d
 induction d with
 | zero =>
  intro listed a w m hl hz hm I c s;have T:m=ops.size:=by
   refine afF fun V=>?_;have:=AK hl m (by omega);have h2:=(c m (by omega)).1 this;omega
  subst T;have O:ops.toList.drop ops.size=[]:=l3 (by simp);rw[O]at s;exact⟨A listed a w (fun i v=>(c i v).2 v),s⟩
 | succ d ih =>
  intro listed a w m hl hz hm I c s;by_cases U:m=ops.size
  ·subst U;have O:ops.toList.drop ops.size=[]:=l3 (by simp);rw[O]at s;have H:=A listed a w (fun i v=>(c i v).2 v);exact⟨fun _=>s,fun j f=>by rw[H]at f;cases f⟩
  ·have x:m<ops.size:=by omega
   have y:=la (xs:=ops) x;obtain⟨D,Z⟩:=xU k hz y;have t:listed[m]?=some false:=by
    have N:m<listed.size:=by omega
    rw[la N];cases M:listed[m] with
    | false=>rfl
    | true =>
     have:=(c m x).1 (by rw[la N,M]);omega
   have u:ops.toList.drop m=ops[m]::ops.toList.drop (m+1):=by
    rw[ls (by rw[If];omega)];simp
   refine⟨fun H=>?_,fun i v=>?_⟩
   ·exfalso;have E:m∈Region.ready .any ops listed:=by
     unfold Region.ready;simp only[akB,aa8,iN,By];refine⟨x,by rw[u5,t];rfl,?_⟩;rw[y];simp only[aaU,Ts,adn,Io,By];intro e he;by_cases M:Region.binds .any e=true
     ·right;have f:e.on∈cZ ops[m]:=wH.2 ⟨e,he,M,rfl⟩;have:=D _ f;rw[u5,(c e.on (by omega)).2 this];rfl
     ·left;simpa using M
    rw[H]at E;cases E
   ·obtain⟨F,o,l,P⟩:=lA v;have R:i<ops.size:=(qk.1 l).1;have Q:i=m:=by
     have N:¬ i<m:=fun h=>F ((c i R).2 h);refine afF fun V=>?_;obtain⟨g1,g2⟩:=xU k (by omega) l
     -- m is among those that i waits for;so m is listed
     have cl:∀(n:Nat) (S:eb),(∀j∈S,j<m)→∀j∈nj ops n S,j<m:=by
      intro n
      induction n with
      | zero=>intro S h j f;exact h j f
      | succ n J =>
       intro S h j f;unfold nj at f;split at f
       ·rename_i hc;have hn:n∈S:=by simpa using hc
        refine J _ (fun q g=>?_) j f;rcases n5.1 g with g|g
        ·exact h q g
        ·split at g
         ·rename_i o' G;have c0:=h n hn
          -- the edges of an operation that is listed: those of n are below n,or listed
          by_cases Y:z≤n
          ·have:=(xU k Y G).1 q g;omega
          ·have:=C n o' (by omega) G q g;omega
         ·cases g
       ·exact J S h j f
     have:m<m:=cl i _ (fun j f=>by
      have:=P j f;have a0:=g1 j f;exact(c j (by omega)).1 this) m (g2 m (by omega))
     omega
    subst Q;have b0:=yY t;rw[y]at l;injection l with l;subst l
    have p:∀L w',wpList b.P ops K (ops.toList.drop (i+1)) L w'→wpAny b.P .any ops K d (listed.setIfInBounds i true) L w':=fun L w' W=>by
     refine ih _ L w' (i+1) (by omega) (by omega) (by omega) (by simpa using I) (fun j f=>?_) W;rw[dJ (by omega)];constructor
     ·rintro (e|h)
      ·omega
      ·have:=(c j f).1 h;omega
     ·intro h;by_cases e:j=i
      ·exact .inl e
      ·exact .inr ((c j f).2 (by omega))
    unfold wpOp;simp only[y];rw[u]at s;unfold wpList at s;split at s
    ·rename_i X;rw[lc X];exact s.imp (OB p (fun _ _ _ _ h=>h)) (fun h=>h)
    ·rename_i X;rw[kb X];exact p _ _ s
end
end Go.Proofs.YtocgkfoifehcbaaGreat

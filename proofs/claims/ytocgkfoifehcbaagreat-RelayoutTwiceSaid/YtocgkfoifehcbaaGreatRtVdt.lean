/- A region that draws its order, with a tail of operations each of which waits for all ahead of it. No program in sight. -/
import Derived.Test.YtocgkfoifehcbaaGreatRtVdz
namespace Go.Proofs.YtocgkfoifehcbaaGreat
set_option linter.all false
open Go.RowKit
def oy(ops:Array Oper)(z:Nat):Bool:=(List.range ops.size).all fun m=>Nat.ble (m+1) z||match ops[m]? with
 | some o=>((cW o).all fun j=>decide (j<m))&&(List.range m).all fun i=>(mQ ops m (cW o)).contains i
 | none=>false
theorem vQ{ops:Array Oper}{z m}{o}(h:oy ops z=true)(c:z≤m)(a:ops[m]?=some o):(∀j∈cW o,j<m)∧∀i,i<m→i∈mQ ops m (cW o):=by
 unfold oy at h;simp only[n5,afd,IF]at h;have b:m<ops.size:=(qv.1 a).1;rcases h m b with h|h
 ·have:=j3 h;omega
 simp_all
section
variable{d:Cx}{ops:Array Oper}{c:er}{K:Nat}{σ:Nat→AS}{f:AS}
theorem Em{K:Exit→Act→World→Prop}{z:Nat}(k:oy ops z=true)(C:∀(n:Nat) (o:Oper),n<z→ops[n]?=some o→∀j∈cW o,j<n):∀(c:Nat) (listed:Array Bool) (a:Act) (w:World) (m:Nat),iD listed=c→z≤m→m≤ops.size→listed.size=ops.size→(∀i,i<ops.size→(listed[i]?=some true↔i<m))→wpList d.P ops K (ops.toList.drop m) a w→wpAny d.P .any ops K c listed a w:=by
 have A:∀(listed:Array Bool) (a:Act) (w:World),(∀i,i<ops.size→listed[i]?=some true)→Region.ready .any ops listed=[]:=by
  intro listed a w B;cases H:Region.ready .any ops listed with
  | nil=>rfl
  | cons j r =>
   exfalso;obtain⟨t,o,y,_⟩:=kS (ops:=ops) (listed:=listed) (i:=j) (by rw[H];simp);exact t (B j (qv.1 y).1)
 intro c
 induction c with
 | zero =>
  intro listed a w m hl hz hm I b s;have T:m=ops.size:=by
   refine abh fun V=>?_;have:=uK hl m (by omega);have h2:=(b m (by omega)).1 this;omega
  subst T;have O:ops.toList.drop ops.size=[]:=mo (by simp);rw[O]at s;exact⟨A listed a w (fun i v=>(b i v).2 v),s⟩
 | succ c ih =>
  intro listed a w m hl hz hm I b s;by_cases U:m=ops.size
  ·subst U;have O:ops.toList.drop ops.size=[]:=mo (by simp);rw[O]at s;have H:=A listed a w (fun i v=>(b i v).2 v);exact⟨fun _=>s,fun j f=>by rw[H]at f;cases f⟩
  ·have x:m<ops.size:=by omega
   have y:=la (xs:=ops) x;obtain⟨D,Z⟩:=vQ k hz y;have t:listed[m]?=some false:=by
    have N:m<listed.size:=by omega
    rw[la N];cases M:listed[m] with
    | false=>rfl
    | true =>
     have:=(b m x).1 (by rw[la N,M]);omega
   have u:ops.toList.drop m=ops[m]::ops.toList.drop (m+1):=by
    rw[l3 (by rw[DO];omega)];simp
   refine⟨fun H=>?_,fun i v=>?_⟩
   ·exfalso;have E:m∈Region.ready .any ops listed:=by
     unfold Region.ready;simp only[akh,afd,iO,Qf];refine⟨x,by rw[u4,t];rfl,?_⟩;rw[y];simp only[Ts,RX,aeq,IF,Qf];intro e he;by_cases M:Region.binds .any e=true
     ·right;have f:e.on∈cW ops[m]:=q9.2 ⟨e,he,M,rfl⟩;have:=D _ f;rw[u4,(b e.on (by omega)).2 this];rfl
     ·left;simpa using M
    rw[H]at E;cases E
   ·obtain⟨F,o,l,P⟩:=kS v;have R:i<ops.size:=(qv.1 l).1;have Q:i=m:=by
     have N:¬ i<m:=fun h=>F ((b i R).2 h);refine abh fun V=>?_;obtain⟨g1,g2⟩:=vQ k (by omega) l
     -- m is among those that i waits for;so m is listed
     have cl:∀(n:Nat) (S:ed),(∀j∈S,j<m)→∀j∈mQ ops n S,j<m:=by
      intro n
      induction n with
      | zero=>intro S h j f;exact h j f
      | succ n J =>
       intro S h j f;unfold mQ at f;split at f
       ·rename_i hc;have hn:n∈S:=by simpa using hc
        refine J _ (fun q g=>?_) j f;rcases nw.1 g with g|g
        ·exact h q g
        ·split at g
         ·rename_i o' G;have c0:=h n hn
          -- the edges of an operation that is listed: those of n are below n,or listed
          by_cases Y:z≤n
          ·have:=(vQ k Y G).1 q g;omega
          ·have:=C n o' (by omega) G q g;omega
         ·cases g
       ·exact J S h j f
     have:m<m:=cl i _ (fun j f=>by
      have:=P j f;have a0:=g1 j f;exact(b j (by omega)).1 this) m (g2 m (by omega))
     omega
    subst Q;have b0:=ui t;rw[y]at l;injection l with l;subst l
    have p:∀L w',wpList d.P ops K (ops.toList.drop (i+1)) L w'→wpAny d.P .any ops K c (listed.setIfInBounds i true) L w':=fun L w' W=>by
     refine ih _ L w' (i+1) (by omega) (by omega) (by omega) (by simpa using I) (fun j f=>?_) W;rw[dJ (by omega)];constructor
     ·rintro (e|h)
      ·omega
      ·have:=(b j f).1 h;omega
     ·intro h;by_cases e:j=i
      ·exact .inl e
      ·exact .inr ((b j f).2 (by omega))
    unfold wpOp;simp only[y];rw[u]at s;unfold wpList at s;split at s
    ·rename_i X;rw[ll X];exact s.imp (ON p (fun _ _ _ _ h=>h)) (fun h=>h)
    ·rename_i X;rw[kc X];exact p _ _ s
theorem db.aap{T:Exit→Act→World→Prop}(S:Stat ops c K)(X:k9 d.P d.n f ops c K σ){z:Nat}(J:c.length=z)(F:z≤ops.size)(m:oy ops z=true)(U:∀a w ι,aV d (σ K) a w ι→wpList d.P ops T (ops.toList.drop z) a w):
  ∀(l:Nat) (listed:Array Bool) (a:Act) (w:World) (k:Nat) (ι:Env),iD listed=l→(∀i,z≤i→listed[i]?≠some true)→db d ops c K σ listed a w k ι→wpAny d.P .any ops T l listed a w:=by
 have p:∀(n:Nat) (o:Oper),n<z→ops[n]?=some o→∀j∈cW o,j<n:=fun n o hn A=>S.lex n _ _ A (kb (by rw[J];exact hn));have B:∀(listed:Array Bool) (a:Act) (w:World) (k:Nat) (ι:Env),db d ops c K σ listed a w k ι→(∀i,i<z→listed[i]?=some true)→aV d (σ K) a w ι:=by
  intro listed a w k ι h g;have hk:k=K:=by
   have:=h.kK;rcases S.last with h0|⟨i,r⟩
   ·omega
   ·have M:i<z:=by rw[←J];exact(jt.1 r).1
    have:=(h.wr i K r).1 (g i M);omega
  subst hk;exact⟨h.hs,h.dfr,h.n,fun t v hv=>h.tmp t v hv (fun i o tg _ Q _ _=>g i (by rw[←J];exact(jt.1 Q).1))⟩
 intro l
 induction l with
 | zero =>
  intro listed a w k ι H s h;have g:∀i,i<z→listed[i]?=some true:=fun i r=>uK H i (by rw[h.sz];omega);exact Em m p 0 listed a w z H (lc _) F h.sz (fun i r=>⟨fun x=>abh fun C=>s i (by omega) x,g i⟩) (U a w ι (B listed a w k ι h g))
 | succ l ih =>
  intro listed a w k ι H s h;by_cases g:∀i,i<z→listed[i]?=some true
  ·exact Em m p (l+1) listed a w z H (lc _) F h.sz (fun i r=>⟨fun x=>abh fun C=>s i (by omega) x,g i⟩) (U a w ι (B listed a w k ι h g))
  ·refine⟨fun hr=>?_,fun i r=>?_⟩
   ·exfalso;apply g;intro i
    induction i using Nat.strongRecOn with
    | _ i R =>
     intro r;have A:=la (xs:=ops) (show i<ops.size by omega);cases D:listed[i]? with
     | none=>rw[ake,h.sz]at D;omega
     | some b =>
      cases b with
      | true=>rfl
      | false =>
       exfalso;have I:i∈Region.ready .any ops listed:=by
        unfold Region.ready;simp only[akh,afd,iO,Qf];refine⟨by omega,by rw[u4,D];rfl,?_⟩;rw[A];simp only[Ts,RX,aeq,IF,Qf];intro e Z;by_cases G:Region.binds .any e=true
        ·right;have P:e.on∈cW ops[i]:=q9.2 ⟨e,Z,G,rfl⟩;have E:=p i _ r A e.on P;rw[u4,R e.on E (by omega)];rfl
        ·left;simpa using G
       rw[hr]at I;cases I
   ·obtain⟨y,o,A,L⟩:=kS r;have N:i<ops.size:=(qv.1 A).1;have u:i<listed.size:=by rw[h.sz];exact N
    have hf:listed[i]?=some false:=by
     rw[la u]at y⊢;cases G:listed[i] with
     | true=>rw[G]at y;exact(y rfl).elim
     | false=>rfl
    have a0:=ui hf;have O:i<z:=by
     refine abh fun C=>g fun q V=>?_;obtain⟨_,Y⟩:=vQ m (by omega) A;exact vi h.cl i _ (fun j P=>L j P) q (Y q (by omega))
    refine h.one S X (by rw[J];exact O) r (fun W w' k' ι' I=>ih _ W w' k' ι' (by omega) (fun q V x=>?_) I);rcases (dJ u).1 x with e|x
    ·omega
    ·exact s q V x
end
theorem aaw{e:Cx}{Q:Exit→Act→World→Prop}{C:dt}{f:Func}{p:ed}{g:AS}{c:er}(z K:Nat)(r:il)(i:iF)(o:List (Nat×cg))(u:List (AS→AS))
  (v:eL e.P e.n g (dg f p) K (nN g r i o u) (aR f p 0) c) (h:OT e Q C (dg f p) (aR f p z) (Ge g r i o u K))
  (x:jS f p=true:=by kernel_rfl) (H:e.P.follows .mixedOrders=true:=by kernel_rfl) (s:wA (dg f p) c K z=true:=by kernel_rfl) (G:ni c K=true:=by kernel_rfl) (d:lV (aR f p 0) c r=true:=by kernel_rfl) (y:iM g.u i=true:=by kernel_rfl) (k:iM g.u o=true:=by kernel_rfl)
  (t:(Nat.ble z (dg f p).size&&oy (dg f p) z)=true:=by kernel_rfl):VE e Q (.c (cat f p)::C) .normal g:=by
 have E:aR f p 0=(dg f p).toList:=by simp[aR]
 have F:aR f p z=(dg f p).toList.drop z:=rfl;rw[F]at h;cases j:cat f p with
 | region id ops b =>
  cases b with
  | false=>unfold jS at x;rw[j]at x;cases x
  | true =>
   have I:dg f p=ops:=by unfold dg;rw[j];rfl
   rw[E]at v d;rw[I]at v d s h t;rw[iO]at t;intro a w ι m;obtain⟨D,l,_⟩:=yq s G;have B:=AJ (P:=e.P) (n:=e.n) c K r i o (nN g r i o u) d y k (by unfold nN;cases u<;>rfl) v;refine alD H (db.aap D B l (j3 t.1) t.2 (fun a w ι s=>h a w ι s) ops.size _ a _ 0 ι (by simp[iD]) (fun q _ A=>?_) (db.start D B m));rw[aj8]at A;split at A<;>cases A
 | _=>grind[jS]
end Go.Proofs.YtocgkfoifehcbaaGreat

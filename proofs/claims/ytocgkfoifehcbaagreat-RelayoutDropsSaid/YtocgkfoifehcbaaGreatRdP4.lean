/- The runs of the functions that RelayoutDrops reaches do what their plain forms say, part 4. Made by a program. -/
import Derived.Test.YtocgkfoifehcbaaGreatRdP3
namespace Go.Proofs.YtocgkfoifehcbaaGreat
open Go.RowKit
set_option maxRecDepth 20000
set_option linter.all false
def rv:=@List.getD_eq_getElem?_getD
def aeq:=@List.getElem?_set_self
def ahh:=@List.getElem?_set_ne
def akZ:=@decide_eq_true
def alu:=@List.getElem?_eq_none
def alG:=@Option.some.inj
def alK:=@List.nodup_append
structure DB where
 nd:Bool
 b:ab
 y:Value
 kids:List DB
instance:Inhabited DB:=⟨⟨false,c7,.nilIface,[]⟩⟩
def DB.cells(D:DB):c6:=List.set (aA ({ D.b with Kids:=[] }:ab)) 58 (.vv D.y)
theorem DB.Yk(D:DB):D.cells.length=59:=rfl
mutual
def DB.plain:DB→ab
 | ⟨_,b,_,a⟩=>{ b with Kids:=iM a }
def iM:List DB→d6
 | []=>[]
 | d::r=>d.plain::iM r
end
theorem nF:∀l:List DB,iM l=l.map DB.plain
 | []=>rfl
 | d::r=>by simp[iM,nF r]
mutual
def DB.bl:DB→ed
 | ⟨b,_,y,a⟩=>match b with|true=>(match bu (some y) with|some g=>[g]|none=>[])++bls a|false=>[]
def bls:List DB→ed
 | []=>[]
 | d::r=>d.bl++bls r
end
theorem E0:∀(l m:List DB),bls (l++m)=bls l++bls m
 | [],m=>rfl
 | d::r,m=>by simp[bls,E0 r m]
theorem kB:∀{l:List DB} {g:Nat},g∈bls l↔∃d∈l,g∈d.bl
 | [],g=>by simp[bls]
 | d::r,g=>by simp[bls,kB (l:=r)]
theorem DB.S5(D:DB):D.plain={ D.b with Kids:=D.kids.map DB.plain }:=by cases D;simp only[DB.plain,nF]
theorem DB.Ow(D:DB):aL D.plain=List.set (aA ({ D.b with Kids:=[] }:ab)) 58 (.sl (lm aL (D.kids.map DB.plain))):=by
 rw[dW,DB.S5];rfl
theorem ahk{y x:Value}(h:gP (.vv y) x):x=y:=by
 have:=h (fun _=>False) default bH;cases this;rfl
inductive dM (w:World):DB→Prop
 | leaf (b:ab) (y:Value) (hb:b.Kind≠1) (A:Option Addr) (c:Nat) (hy:y=.slice A 0 c):dM w ⟨false,b,y,[]⟩
 | node (b:ab) (y:Value) (kids:List DB) (xs:eg) (h1:w.ownsRow 0 48 59 y kids.length xs) (h2:∀ x∈xs,x.oneCell'=true)
     (h3:∀(j:Nat) (D:DB),kids[j]?=some D→∀(i:Nat) (c:AV),D.cells[i]?=some c→∃x,xs[j*59+i]?=some x∧gP c x) (h4:∀D∈kids,dM w D):dM w ⟨true,b,y,kids⟩
theorem Pg{b:ab}{y:Value}{a:List DB}{D:DB}(h:D∈a){g:Nat}(c:g∈D.bl):g∈(⟨true,b,y,a⟩:DB).bl:=by
 simp only[DB.bl,n5];exact .inr (kB.2 ⟨D,h,c⟩)
theorem Ex{b:ab}{y:Value}{a:List DB}{g:Nat}(c:bu (some y)=some g):g∈(⟨true,b,y,a⟩:DB).bl:=by
 simp[DB.bl,c]
theorem dM.bZ{w w':World}{D:DB}(h:dM w D):(∀g∈D.bl,w'.heap[g]?=w.heap[g]?)→dM w' D:=by
 induction h with
 | leaf b y l A c m=>intro _;exact .leaf b y l A c m
 | node b y a xs i j k o n=>intro f;exact .node b y a xs (fK i (fun g d=>f g (Ex d))) j k (fun D e=>n D e (fun g d=>f g (Pg e d)))
theorem dM.lt{w:World}{D:DB}(h:dM w D):∀g∈D.bl,g<w.heap.size:=by
 induction h with
 | leaf b y d A c p=>intro g a;cases a
 | node b y f xs i m n o k =>
   intro g a;simp only[DB.bl,n5]at a;rcases a with a|a
   · cases d:bu (some y) with
     | none=>rw[d]at a;cases a
     | some l=>rw[d]at a;rw[ajv.1 a];exact Fp i d
   · obtain⟨D,j,e⟩:=kB.1 a;exact k D j g e
theorem dM.rel{w:World}{N:Nat→Prop}{D:DB}(h:dM w D):(∀g∈D.bl,¬ N g)→Rel N w bH (.sl (lm aL (D.kids.map DB.plain))) D.y:=by
 induction h with
 | leaf b y Q A c U=>intro _;subst U;exact .sl0 _ _ _
 | node b y a xs O P G X W =>
   intro I;obtain⟨Y,⟨V,C⟩|⟨g,s,t,K,Q,r,R,J,T,F⟩⟩:=O
   · have:a=[]:=qk C;subst this;show Rel N w bH (.sl []) y;rw[V];exact .sl0 _ _ _
   · have z:bu (some y)=some g:=by rw[K];rfl
     have H:(lm aL (a.map DB.plain)).length=a.length:=by simp
     have q:∀(j:Nat) (e:c6),(lm aL (a.map DB.plain))[j]?=some e→∃D,a[j]?=some D∧e=aL D.plain:=fun j e d=>by
       rw[Do,Do]at d;cases L:a[j]? with
       | none=>rw[L]at d;cases d
       | some D=>rw[L]at d;injection d with d;exact⟨D,rfl,d.symm⟩
     have k:∀(j:Nat) (e:c6),(lm aL (a.map DB.plain))[j]?=some e→∀(i:Nat) (x:AV),e[i]?=some x→∃v,xs[j*59+i]?=some v∧Rel N w bH x v:=fun j e d i x l=>by
       obtain⟨D,u,rfl⟩:=q j e d;rw[DB.Ow]at l;have n:=mm u;have m:(aA ({ D.b with Kids:=[] }:ab)).length=59:=rfl;by_cases p:i=58
       · subst p;rw[aeq (by rw[m];omega)]at l;injection l with l;subst l
         obtain⟨v,f,E⟩:=G j D u 58 (.vv D.y) (by unfold DB.cells;rw[aeq (by rw[m];omega)]);refine⟨v,f,?_⟩;rw[ahk E];exact W D n (fun M B=>I M (Pg n B))
       · rw[ahh (fun e=>p e.symm)]at l;obtain⟨v,f,E⟩:=G j D u i x (by unfold DB.cells;rw[ahh (fun e=>p e.symm)];exact l);exact⟨v,f,E _ _ _⟩
     have o:=Rel.sl (N:=N) (w:=w) bH (lm aL (a.map DB.plain)) g 0 s 59 (fun j i=>(xs[j*59+i]?).getD (.bool true)) (fun e d=>by
         obtain⟨b,_,rfl⟩:=Dy.1 d;exact fV b) (q7.1 r).1 (I g (Ex z)) (fun j i=>by
         cases e:xs[j*59+i]? with
         | none=>rfl
         | some v=>exact P v (mm e)) (fun j e d i x l=>by
         obtain⟨v,f,_⟩:=k j e d i x l;rw[alJ _ _ _ _ 48 (0,0) r];have:t.toList[j*59+i]?=some v:=by
           rw[←F]at f;rw[By]at f;split at f
           · exact f
           · cases f
         simp only[f,aag];rw[←aix,IF];exact this) (fun j e d i x l=>by
         obtain⟨v,f,S⟩:=k j e d i x l;simp only[f,aag];exact S) (by rw[H];exact R)
     rw[H]at o;show Rel N w bH _ y;rw[K];exact o
theorem GM{N:Nat→Prop}{w:World}{ι:Env}{l:c6}{c:AV}{y x:Value}{q:Nat}(h:Rel N w ι (.agg (l.set q c)) x)(f:q<l.length)(o:((l.set q (.bool true)).all vk)=true)(n:∀v,Rel N w ι c v→v=y)(r:y.oneCell'=true):gP (.agg (l.set q (.vv y))) x:=by
 cases h with
 | agg _ _ vs b k g =>
   intro N' w' ι';refine .agg _ _ vs (by simpa using b) k fun i a v d j=>?_;rw[akT]at b;by_cases hi:i=q
   · subst hi;rw[aeq f]at d;injection d with d;subst d
     have:=n v (g i c v (aeq f) j);subst this;exact .vv _ _ r
   · rw[ahh (fun e=>hi e.symm)]at d;have m:=g i a v (by rw[ahh (fun e=>hi e.symm)];exact d) j;have p:=n3.1 o a (mm (i:=i) (by rw[ahh (fun e=>hi e.symm)];exact d));exact Ed p m
theorem G6{N:Nat→Prop}{w:World}{ι:Env}{id:Nat}{y:Value}(a:ι id=some y):∀v,Rel N w ι (.ref id) v→v=y:=fun v h=>by
 cases h with
 | ref _ _ A n c h=>rw[a]at h;injection h with h;exact h.symm
theorem Il{N:Nat→Prop}{w:World}{D:DB}{i:Nat}{c:AV}{x:Value}(hi:D.cells[i]?=some c)(h:Rel N w bH c x):gP c x:=by
 have b:(aA ({ D.b with Kids:=[] }:ab)).length=59:=rfl;by_cases a:i=58
 · subst a;unfold DB.cells at hi;rw[aeq (by rw[b];omega)]at hi;injection hi with hi;subst hi
   cases h with
   | vv _ _ d=>exact fun _ _ _=>.vv _ _ d
 · have f:vk c=true:=n3.1 (show ((List.set (aA ({ D.b with Kids:=[] }:ab)) 58 (.bool true)).all vk)=true from rfl) c (mm (i:=i) (by
     unfold DB.cells at hi;rw[ahh (fun e=>a e.symm)]at hi⊢;exact hi))
   exact fun _ _ _=>Ed f h
def DB.fR(D:DB):c6:=List.set (aA ({ D.b with Kids:=[] }:ab)) 58 (match D.nd with|true=>.vv D.y|false=>.sl [])
theorem DB.SJ(D:DB):D.fR.length=59:=rfl
theorem EZ{α β:Type}{P:Nat→α→β→Prop}:∀(l:List α) (k:Nat),(∀(j:Nat) (a:α),l[j]?=some a→∃b,P (k+j) a b)→∃m:List β,m.length=l.length∧∀(j:Nat) (a:α),l[j]?=some a→∃b,m[j]?=some b∧P (k+j) a b
 | [],k,_=>⟨[],rfl,fun j a h=>by simp at h⟩
 | a::r,k,h=>by
   obtain⟨b,o⟩:=h 0 a rfl;obtain⟨m,i,n⟩:=EZ (P:=P) r (k+1) (fun j d c=>by have:=h (j+1) d (by simpa using c);rw[show k+1+j=k+(j+1) by omega];exact this);refine⟨b::m,by simp[i],fun j d c=>?_⟩;cases j with
   | zero=>simp at c;subst c;exact⟨b,rfl,o⟩
   | succ j =>
     obtain⟨e,f,g⟩:=n j d (by simpa using c);exact⟨e,by simpa using f,by rw[show k+(j+1)=k+1+j by omega];exact g⟩
theorem EC{α β γ:Type}{f:α→γ}{g:β→γ}:∀{l:List α} {m:List β},m.length=l.length→(∀(j:Nat) (a:α),l[j]?=some a→∃b,m[j]?=some b∧g b=f a)→m.map g=l.map f
 | [],[],_,_=>rfl
 | [],_::_,h,_=>by cases h
 | _::_,[],h,_=>by cases h
 | a::r,b::q,h,k=>by
   obtain⟨n,c,e⟩:=k 0 a rfl;simp at c;subst c;rw[rl,rl,e,EC (by simpa using h) (fun j d i=>by simpa using k (j+1) d (by simpa using i))]
theorem qg:∀l:List DB,bls l=(l.map DB.bl).flatten
 | []=>rfl
 | d::r=>by simp[bls,qg r]
theorem WJ{M:Nat→Prop}{b:aB}{w:World}{ι:Env}{s:AS}(h:HS M b w ι s){id:Nat}{n:List DB}(hr:look id s.r=some ⟨48,59,n.map DB.fR⟩)(g0:id<TG){y:Value}(U:ι id=some y)(W:ab)(S:∀D∈n,(D.nd=true→dM b.w D∧∀g∈D.bl,M g)∧(D.nd=false→D.kids=[]∧D.b.Kind≠1))(J:(bls n).Nodup):
   ∃Ds',iM Ds'=iM n∧bls Ds'=bls n∧dM w ⟨true,W,y,Ds'⟩∧(∀g∈bls Ds',M g)∧(⟨true,W,y,Ds'⟩:DB).bl.Nodup∧(∀g,bu (some y)=some g→b.O g∧g<w.heap.size):=by
 obtain⟨v,xs,Q,e2,e3,e4,e5⟩:=h.arrs id _ hr (by rw[U];rfl);rw[U]at Q;injection Q with Q;subst Q
 have C:∀D:DB,D.nd=false→D.bl=[]:=fun D l=>by cases D;simp only at l;subst l;rfl
 have X:∀D∈n,∀g∈D.bl,M g:=fun D l g m=>by
   cases B:D.nd with
   | true=>exact((S D l).1 B).2 g m
   | false=>rw[C D B]at m;cases m
 have step:∀(j:Nat) (D:DB),n[j]?=some D→∃k:DB,k.plain=D.plain∧k.bl=D.bl∧dM w k∧∀(i:Nat) (c:AV),k.cells[i]?=some c→∃x,xs[(0+j)*59+i]?=some x∧gP c x:=fun j D l=>by
   have u:=mm l;have F:(aA ({ D.b with Kids:=[] }:ab)).length=59:=rfl;have get:∀(i:Nat) (c:AV),D.fR[i]?=some c→∃x,xs[j*59+i]?=some x∧Rel (NN M ι) w bH c x:=fun i c d=>by
     obtain⟨x,O,z⟩:=e5 j D.fR (by rw[Do,l];rfl) i c d;exact⟨x,O,z.flat (by omega)⟩
   cases B:D.nd with
   | true =>
     have q:D.fR=D.cells:=by unfold DB.fR DB.cells;rw[B]
     refine⟨D,rfl,rfl,((S D u).1 B).1.bZ fun g m=>?_,fun i c d=>?_⟩
     · have G:=h.old g (((S D u).1 B).2 g m);exact h.below.block g G.1 G.2
     · obtain⟨x,O,z⟩:=get i c (by rw[q];exact d);exact⟨x,by rw[IF];exact O,Il d z⟩
   | false =>
     obtain⟨r,t⟩:=(S D u).2 B;have q:D.fR=List.set (aA ({ D.b with Kids:=[] }:ab)) 58 (.sl []):=by unfold DB.fR;rw[B]
     obtain⟨x,O,z⟩:=get 58 (.sl []) (by rw[q,aeq (by rw[F];omega)]);have f0:∃A c,x=.slice A 0 c:=by
       cases z with
       | sl0 _ A c=>exact⟨A,c,rfl⟩
       | sl _ _ b o c sz h0=>exact⟨_,_,rfl⟩
     obtain⟨A,c0,rfl⟩:=f0;obtain⟨nd,V,yy,kk⟩:=D;simp only at B r t;subst B;subst r;refine⟨⟨false,V,.slice A 0 c0,[]⟩,rfl,rfl,.leaf V _ t A c0 rfl,fun i c d=>?_⟩;rw[IF];by_cases K:i=58
     · subst K;unfold DB.cells at d;rw[aeq (by rw[F];omega)]at d;injection d with d;subst d
       exact⟨_,O,fun _ _ _=>.vv _ _ rfl⟩
     · have Z:(DB.fR ⟨false,V,yy,[]⟩)[i]?=some c:=by
         unfold DB.cells at d;unfold DB.fR;rw[ahh (fun e=>K e.symm)]at d⊢;exact d
       obtain⟨x,e0,N⟩:=get i c Z;exact⟨x,e0,Il d N⟩
 obtain⟨Ds',T,H⟩:=EZ (P:=fun j (D k:DB)=>k.plain=D.plain∧k.bl=D.bl∧dM w k∧∀(i:Nat) (c:AV),k.cells[i]?=some c→∃x,xs[j*59+i]?=some x∧gP c x) n 0 step;have d0:iM Ds'=iM n:=by
   rw[nF,nF];exact EC T fun j a Y=>by obtain⟨b,E,R,_⟩:=H j a Y;exact⟨b,E,R⟩
 have I:bls Ds'=bls n:=by
   rw[qg,qg,EC (f:=DB.bl) (g:=DB.bl) T fun j a Y=>by obtain⟨b,E,_,R,_⟩:=H j a Y;exact⟨b,E,R⟩]
 have p:∀(j:Nat) (k:DB),Ds'[j]?=some k→dM w k∧∀(i:Nat) (c:AV),k.cells[i]?=some c→∃x,xs[j*59+i]?=some x∧gP c x:=fun j k L=>by
   have b0:j<n.length:=by rw[←T];exact(jt.1 L).1
   obtain⟨b,E,R,g3,g4,g5⟩:=H j _ (j3 b0);rw[L]at E;injection E with E;subst E
   exact⟨g4,fun i c d=>by have:=g5 i c d;rw[IF]at this;exact this⟩
 have hM:∀g∈bls Ds',M g:=fun g m=>by
   rw[I]at m;obtain⟨D,l,a0⟩:=kB.1 m;exact X D l g a0
 refine⟨Ds',d0,I,.node W y Ds' xs (by rw[T];simpa using e2) e4 (fun j D l i c d=>(p j D l).2 i c d) (fun D l=>?_),hM,?_,fun g m=>h.own id g (by rw[U];exact m)⟩
 · obtain⟨j,hj⟩:=ali l;exact(p j D hj).1
 · simp only[DB.bl];rw[←I]at J;cases hb:bu (some y) with
   | none=>exact J
   | some g =>
     refine List.nodup_cons.2 ⟨fun m=>?_,J⟩;exact h.sep (hM g m) (by rw[U];exact hb)
noncomputable section
variable(M:Nat→Prop)(f:World)(o:aB)(r:ab×Int)(d:h8)(v2:Int)(u:Bool)(j:Int)(t:List DB)(z:Bool)(B:Nat)(A:Int→d6→Option g6)
abbrev Fb:Cx:=⟨bb,95,M,o⟩
def QT(r:ab×Int)(w w':World)(v:AV):Prop:=∃D:DB,D.nd=true∧D.plain=r.1∧v=.tup [.agg D.cells,iI r.2]∧dM w' D∧(∀g∈D.bl,w.heap.size≤g∧g<w'.heap.size)∧D.bl.Nodup
abbrev qT:=bodyPost bb Tryz.f41 (fun e w'=>∃x v,e=.returned x∧Below f.heap.size f w'∧QT r f w' v∧gP v x)
abbrev F0(a:dt)(s:AS):=VE (Fb M o) (qT f r) a .normal s
structure FI(M:Nat→Prop)(f:World)(o:aB)(Ds:List DB):Prop where
 gr:fC (fun _=>False) (nj f) o
 ok:∀D∈Ds,(D.nd=true→dM o.w D∧∀g∈D.bl,M g∧f.heap.size≤g)∧(D.nd=false→D.kids=[]∧D.b.Kind≠1)
 nodup:(bls Ds).Nodup
theorem FI.bl{M:Nat→Prop}{f:World}{o:aB}{d:List DB}(h:FI M f o d):∀g∈bls d,M g∧f.heap.size≤g:=fun g i=>by
 obtain⟨D,e,a⟩:=kB.1 i;cases c:D.nd with
 | true=>exact((h.ok D e).1 c).2 g a
 | false=>obtain⟨j,b,y,k⟩:=D;simp only at c;subst c;cases a
theorem FI.add{M:Nat→Prop}{f w:World}{o m:aB}{s:List DB}(h:FI M f o s)(t:∀k,M k→k<o.w.heap.size∧¬ o.G k)(r:o.w.heap.size≤w.heap.size)(u:fC (fun _=>False) o m){D:DB}(n:D.nd=true)(q:dM m.w D)(l:∀g∈D.bl,w.heap.size≤g∧g<m.w.heap.size)(p:D.bl.Nodup):FI (fun c=>M c∨c∈D.bl) f m (s++[D]):=by
 refine⟨h.gr.trans u,fun j d=>?_,?_⟩
 · rcases n5.1 d with d|d
   · refine⟨fun i=>⟨((h.ok j d).1 i).1.bZ fun g e=>?_,fun g e=>⟨.inl (((h.ok j d).1 i).2 g e).1,(((h.ok j d).1 i).2 g e).2⟩⟩,(h.ok j d).2⟩;have:=t g (((h.ok j d).1 i).2 g e).1;exact u.block g this.1 this.2 (fun h=>h)
   · rw[ajv.1 d];exact⟨fun _=>⟨q,fun g e=>⟨.inr e,RX h.gr.size (RX r (l g e).1)⟩⟩,fun i=>by rw[n]at i;cases i⟩
 · rw[E0];refine alK.2 ⟨h.nodup,by simpa[bls]using p,fun a v b x=>?_⟩;have y:=t a (h.bl a v).1;have z:=l b (by simpa[bls]using x);omega
theorem FI.txt{M:Nat→Prop}{f:World}{o:aB}{c:List DB}(h:FI M f o c){b:ab}{y:Value}(e:b.Kind≠1):FI M f o (c++[⟨false,b,y,[]⟩]):=by
 refine⟨h.gr,fun d a=>?_,?_⟩
 · rcases n5.1 a with a|a
   · exact h.ok d a
   · rw[ajv.1 a];exact⟨fun g=>(by cases g),fun _=>⟨rfl,e⟩⟩
 · rw[E0];have:bls [(⟨false,b,y,[]⟩:DB)]=[]:=rfl;rw[this,List.append_nil];exact h.nodup
theorem aj0{M:Nat→Prop}{f w:World}{o:aB}{ι:Env}{s:AS}{B:List DB}{b:ab}{n:Int}{x:Value}(c:FI M f o B)(m:HS M o w ι s)(Y:look 72 s.r=some ⟨48,59,B.map DB.fR⟩)(Z:Rel (NN M ι) w ι (.tup [.agg (List.set (aA ({ b with Kids:=[] }:ab)) 58 (.ref 72)),iI n]) x):
   ∃v,Below f.heap.size f w∧QT ({ b with Kids:=B.map DB.plain },n) f w v∧gP v x:=by
 cases Z with
 | tup _ _ vs t z =>
   match vs,t with
   | [p,q],_ =>
     have L:=z 0 _ p rfl rfl;have A:=z 1 _ q rfl rfl;have r:∃y,ι 72=some y∧y.oneCell'=true:=by
       cases L with
       | agg _ _ us W E I =>
         have u:58<us.length:=by rw[←W];show 58<59;omega
         have e:=I 58 (.ref 72) _ (aeq (show 58<59 by omega)) (j3 u);have U:=E _ (qv u);obtain⟨y,r⟩:=ff 72 _ _ _ _ e;exact⟨y,r,by rw[←G6 r _ e];exact U⟩
     obtain⟨y,r,J⟩:=r;obtain⟨Ds',E,Q,R,h4,S,T⟩:=WJ m Y (by decide) r ({ b with Kids:=[] }:ab) (fun D F=>⟨fun A=>⟨((c.ok D F).1 A).1,fun g d=>(((c.ok D F).1 A).2 g d).1⟩,(c.ok D F).2⟩) c.nodup;refine⟨.tup [.agg (DB.cells ⟨true,{ b with Kids:=[] },y,Ds'⟩),iI n],⟨m.below.os.trans c.gr.os,m.below.tape.trans c.gr.tape,m.below.output.trans c.gr.output,RX c.gr.size m.below.size,fun k H=>?_⟩,⟨⟨true,{ b with Kids:=[] },y,Ds'⟩,rfl,?_,rfl,R,fun g d=>?_,S⟩,fun N w2 ι2=>.tup _ _ [p,q] rfl fun i a v j l=>?_⟩
     · have X:¬ o.G k:=fun V=>by
         rcases c.gr.O k (.inr V)with e|e
         · exact absurd H (akX.2 e)
         · exact e
       exact(m.below.block k (wl H c.gr.size) X).trans (c.gr.block k H (fun h=>h) (fun h=>h))
     · show({ b with Kids:=iM Ds' }:ab)=_;rw[E,nF]
     · simp only[DB.bl,n5]at d;rcases d with d|d
       · cases G:bu (some y) with
         | none=>rw[G]at d;cases d
         | some K =>
           rw[G]at d;rw[ajv.1 d];obtain⟨O,P⟩:=T K G;rcases c.gr.O K O with C|C
           · exact⟨C,P⟩
           · exact C.elim
       · rw[Q]at d;have e:=c.bl g d;exact⟨e.2,wl (m.old g e.1).1 m.below.size⟩
     · match i,j,l with
       | 0,j,l =>
         injection j with j;injection l with l;subst j;subst l
         exact GM L (by show 58<59;omega) rfl (G6 r) J N w2 ι2
       | 1,j,l =>
         injection j with j;injection l with l;subst j;subst l
         exact Ed rfl A
abbrev pX(n:Nat):aq:=.c (cat Tryz.f41 (pn n))
abbrev Hn:dt:=[.b 0,pX 127]
abbrev Fs:dt:=kl (Fb M o) (qT f r) Hn (cat Tryz.f41 (pn 504)) B::Hn
def WF:AS:=⟨[(0,.sl (lm bp d)),(1,iI j),(4,.ptr 4 0),(6,.ptr 6 0),(7,.int .u8 ((gD d v2).Depth)),(8,.bool u),(60,.bool z)],[(4,List.set (aA c7) 58 (.nils)),(6,List.set (aA ({ c7 with Kind:=1,Node:=(aa (10+v2)),Style:=(gD d v2).Style }:ab)) 58 (.ref 72))],[(72,⟨48,59,lm DB.fR t⟩)],[4,6,72]⟩
def PJ:AS:=⟨[(0,.sl (lm bp d)),(1,iI j),(4,.ptr 4 0),(6,.ptr 6 0),(7,.int .u8 ((gD d v2).Depth)),(8,.bool u)],[(4,List.set (aA c7) 58 (.nils)),(6,List.set (aA ({ c7 with Kind:=1,Node:=(aa (10+v2)),Style:=(gD d v2).Style }:ab)) 58 (.ref 72))],[(72,⟨48,59,lm DB.fR t⟩)],[4,6,72]⟩
def abB:AS:=⟨[(0,.sl (lm bp d)),(1,iI (aa (v2+1))),(4,.ptr 4 0),(6,.ptr 6 0),(7,.int .u8 ((gD d v2).Depth)),(8,.bool u)],[(4,List.set (aA c7) 58 (.nils)),(6,List.set (aA ({ c7 with Kind:=1,Node:=(aa (10+v2)),Style:=(gD d v2).Style }:ab)) 58 (.nils))],[],[4,6]⟩
abbrev Fx:Prop:=∀{M:Nat→Prop} {o:aB} {j:Int} {t:(List DB)},FI M f o t→A j (t.map DB.plain)=some r→LP (Fb M o) (qT f r) Hn (cat Tryz.f41 (pn 504)) B (PJ d v2 u j t)
def KD(K:Kn):Prop:=∀{l:h8} {a:Int} {r:ab×Int},K.kI l a=some r→xZ bb 41 [.sl (lm bp l),iI a] (QT r)
variable{M f o r d v2 u j t z B A}{K:Kn}{n:Nat}
theorem Ou(U:KD K)(C:Fx f r d v2 u B A)(H:FI M f o t)(h:mH K n d v2 u j (t.map DB.plain) A z=some r):F0 M f o r (pX 2017::pX 1009::Fs M f o r B) (WF d v2 u j t z):=by
 unfold mH at h;obtain⟨a,h⟩|⟨a,h⟩:=ao h
 ·refine ah 60 a (bX (ks':=pX 8073::pX 4037 :: .b 1::Fs M f o r B) 6 ?_);obtain⟨b,h⟩|⟨b,h⟩:=ao h
  ·refine ah 61 b (ax 4 5 2 (ai 2 ?_));obtain⟨Q,G,h⟩:=bind_some h;refine PC (U G) (fun v w b2 W V P hG J=>?_);obtain⟨⟨nd,c,i,e⟩,E,O,Y,N,D,L⟩:=W;simp only at E;subst E;subst Y;refine⟨fun g=>g∈(⟨true,c,i,e⟩:DB).bl,D,?_⟩;have I:=H.add V P J rfl N D L;refine ac (ax 2 3 1 (ai 3 (au (gt DB.fR ([⟨true,c,i,e⟩]:List DB) (new:=[DB.cells ⟨true,c,i,e⟩]) rfl) ?_)));obtain⟨p,h⟩:=aF h;rw[nw]at p;refine au (cG 72 72 48 59 DB.fR (rfl) (DB.SJ) (M:=[⟨true,c,i,e⟩]) p) (ac ?_);have F:A Q.2 ((t++[(⟨true,c,i,e⟩:DB)]).map DB.plain)=some r:=by rw[MO,rl,Db,O];exact h
   exact ag 5 (bn (C I F))
  ·refine ah 61 b (fN 2 3 3 (bP [0,1,4,6,7,8] [4,6] [72] ?_));obtain⟨q,h⟩:=aF h;obtain⟨s,h⟩:=aF h;obtain⟨y,h⟩:=aF h;rw[nw]at y;have F:A (aa (j+1)) ((t++[(⟨false,({ c7 with Kind:=3,Style:=(gD d j).Style,Text:=(gD d j).Text }:ab),.nilIface,[]⟩:DB)]).map DB.plain)=some r:=by rw[MO];exact h
   exact bQ 2 (nu 75 [.ptr 6 58,.ref 72,.sl (lm bp d),iI j,.cptr (bp (gD d j)),.cptr (List.drop 5 (bp (gD d j))),.agg (aH ((gD d j).Style)),.sl (lm bp d),iI j,.cptr (bp (gD d j)),.cptr (List.drop 2 (bp (gD d j))),.str ((gD d j).Text),.agg (List.set (aA ({ c7 with Kind:=3,Style:=(gD d j).Style,Text:=(gD d j).Text }:ab)) 58 (.nils)),.sl (lm DB.fR [(⟨false,({ c7 with Kind:=3,Style:=(gD d j).Style,Text:=(gD d j).Text }:ab),.nilIface,[]⟩:DB)])]++nu 90 [.ptr 6 58]) [] [] [g9 89 72 ⟨48,59,lm DB.fR (t++[(⟨false,({ c7 with Kind:=3,Style:=(gD d j).Style,Text:=(gD d j).Text }:ab),.nilIface,[]⟩:DB)])⟩,cf bb 95 Tryz.f41 (pn 8074) 16] (ay [.v 0 2,.v 0 1,.v 0 2,.v 0 2] (aj (ii (lo:=0) (k:=2) (dR ⟨(by kernel_rfl),(ep (bD bp bp q (eK) aT) (by kernel_rfl))⟩ (dR ⟨(by kernel_rfl),(ep (bD bp bp q (eK) aT) (by kernel_rfl))⟩ iJ))) (ay [.v 0 2,.v 0 2,.v 0 2,.v 0 2] (aj (ii (lo:=0) (k:=2) (dR ⟨(by kernel_rfl),(ep (bD bp bp s (eK) aT) (by kernel_rfl))⟩ (dR ⟨(by kernel_rfl),(ep (bD bp bp s (eK) aT) (by kernel_rfl))⟩ iJ))) (ay [.v 0 2,.v 0 2,.v 0 2] (bh (gt DB.fR ([⟨false,({ c7 with Kind:=3,Style:=(gD d j).Style,Text:=(gD d j).Text }:ab),.nilIface,[]⟩]:List DB) (new:=[DB.fR ⟨false,({ c7 with Kind:=3,Style:=(gD d j).Style,Text:=(gD d j).Text }:ab),.nilIface,[]⟩]) rfl) (aj (dp (m:=0) (cG 89 72 48 59 DB.fR (rfl) (DB.SJ) (M:=[(⟨false,({ c7 with Kind:=3,Style:=(gD d j).Style,Text:=(gD d j).Text }:ab),.nilIface,[]⟩:DB)]) y)) (ay [.v 1 1] (aj (cg 1) bR))))))))) (ag 2 (bn (C (H.txt (by show(3:Int)≠1;omega)) F)))
 ·refine ah 60 a (aJ 8 ?_);cases h;refine wI (l:=[.agg (List.set (aA ({ (⟨1,(aa (10+v2)),(gD d v2).Style,⟨#[]⟩,0,0,[]⟩:ab)with Kids:=[] }:ab)) 58 (.ref 72)),iI j]) (by kernel_rfl) (fun w ι x X Z=>?_);obtain⟨v,R,S,T⟩:=aj0 H X (by kernel_rfl) Z;exact⟨x,v,rfl,R,S,T⟩
theorem ahY(e:KD K)(b:Fx f r d v2 u B A)(g:FI M f o t)(h:oo K n d v2 u A j (t.map DB.plain)=some r):F0 M f o r (pX 504::Fs M f o r B) (PJ d v2 u j t):=by
 unfold oo at h;refine cb 4 5 3 2 (ai 2 (au (bv bp d) (aQ 5 2 ?_)));obtain⟨a,h⟩|⟨a,h⟩:=ao h
 ·refine aD 52 a (aQ 7 2 ?_);obtain⟨c,h⟩:=aF h;exact au (bD bp bp c (eK) aT) (ac (ag 0 (Ou e b g h)))
 ·exact aD 52 a (ac (ag 0 (Ou e b g h)))
theorem XH(b:KD K)(m:Nat):Fx f r d v2 u m (ly K n d v2 u m):=by
 induction m with
 | zero=>intro M o j t a h;cases h
 | succ m c=>intro M o j t a h;have h:oo K n d v2 u (ly K n d v2 u m) j (t.map DB.plain)=some r:=h;exact bj (ahY b c a h)
theorem Ft(a:KD K)(b:FI M f o [])(h:oZ K n d v2 u=some r):F0 M f o r [pX 63] (abB d v2 u):=by
 unfold oZ at h;exact gW 4 0 3 2 (bP [0,1,4,6,7,8] [4,6] [] (Ca 72 6 58 48 59 (ag 0 (ca (p:=pn 252) n (XH a n b h)))))
theorem akK(e:KD K)(h:oG K n d v2=some r):xZ bb 41 [.sl (lm bp d),iI v2] (QT r):=by
 refine agq (c:=cat Tryz.f41 (pn 1)) Tryz.func41 (by kernel_rfl) _ Tryz.ntmps41 (lc (by kernel_rfl)) fun M f=>?_;have g:FI M f (nj f) []:=⟨.refl _ _,fun D m=>(by cases m),List.nodup_nil⟩;refine bg ⟨[(0,.sl (lm bp d)),(1,iI v2)],[],[],[]⟩ ?_;unfold oG at h;refine ax 6 7 3 (ai 4 ?_);obtain⟨i,h⟩:=aF h;refine au (bD bp bp i (eK) aT) (ac (ax 2 3 1 (ai 2 ?_)));obtain⟨j,h⟩:=aF h;refine au (bD bp bp j (eK) aT) (ac (ax 6 7 3 (ai 2 (au (bv bp d) (aQ 5 2 ?_)))));obtain⟨a,h⟩|⟨a,h⟩:=ao h
 ·refine aD 30 a (aQ 7 2 ?_);obtain⟨k,h⟩:=aF h;refine au (bD bp bp k (eK) aT) (aQ 14 6 ?_);obtain⟨b,h⟩|⟨b,h⟩:=ao h
  ·refine aD 39 b (aQ 16 2 ?_);obtain⟨l,h⟩:=aF h;exact au (bD bp bp l (eK) aT) (ac (ag 0 (Ft e g h)))
  ·exact aD 39 b (ac (ag 0 (Ft e g h)))
 ·exact aD 30 a (ac (ag 0 (Ft e g h)))
theorem Rz:∀(m:Nat) {l:h8} {a:Int} {r:ab×Int},kZ K n m l a=some r→xZ bb 41 [.sl (lm bp l),iI a] (QT r)
 | 0,_,_,_,h=>by cases h
 | m+1,l,a,r,h=>akK (K:={ K with kI:=kZ K n m }) (fun h=>Rz m h) h
end
theorem PK{f:ab→Option ab}:∀{l m:d6},kP f l=some m→m.length=l.length∧∀(j:Nat) (k:ab),l[j]?=some k→∃a,m[j]?=some a∧(if (k.Kind == 1)=true then f k else some k)=some a
 | [],m,h=>by injection h with h;subst h;exact⟨rfl,fun j k i=>by simp at i⟩
 | k::r,m,h=>by
   obtain⟨a,e,h⟩:=bind_some h;obtain⟨n,g,h⟩:=bind_some h;injection h with h;subst h
   obtain⟨c,d⟩:=PK g;refine⟨by simp[c],fun j q b=>?_⟩;cases j with
   | zero=>simp at b;subst b;exact⟨a,rfl,e⟩
   | succ j=>simpa using d j q (by simpa using b)
theorem Tl:∀{l:List DB} {i j:Nat} {a b:DB} {g:Nat},(bls l).Nodup→i≠j→l[i]?=some a→l[j]?=some b→g∈a.bl→g∈b.bl→False
 | [],i,j,a,b,g,_,_,h,_,_,_=>by simp at h
 | d::r,i,j,a,b,g,p,c,hi,f,k,m=>by
   have n:(d.bl++bls r).Nodup:=p;obtain⟨s,q,o⟩:=alK.1 n;cases i with
   | zero =>
     cases j with
     | zero=>exact c rfl
     | succ j =>
       simp at hi f;subst hi;exact o g k g (kB.2 ⟨b,mm f,m⟩) rfl
   | succ i =>
     cases j with
     | zero =>
       simp at hi f;subst f;exact o g m g (kB.2 ⟨a,mm hi,k⟩) rfl
     | succ j=>exact Tl (i:=i) (j:=j) q (fun e=>c (by omega)) (by simpa using hi) (by simpa using f) k m
structure DI(M:Nat→Prop)(w0:World)(y:Value)(b':aB)(Ds X:List DB):Prop where
 gr:fC (fun g=>g∈bls Ds) (nN w0 700 y) b'
 ok:∀D∈X,dM b'.w D
 sub:∀g∈bls Ds,M g
 bl:X.map DB.bl=Ds.map DB.bl
theorem DI.bls{M:Nat→Prop}{c:World}{y:Value}{b:aB}{a X:List DB}(h:DI M c y b a X):bls X=bls a:=by rw[qg,qg,h.bl]
theorem DI.put{M:Nat→Prop}{v:World}{y:Value}{f m:aB}{d X:List DB}(h:DI M v y f d X)(x:(Go.Proofs.YtocgkfoifehcbaaGreat.bls d).Nodup){i:Nat}{D l:DB}(hi:X[i]?=some D)(w:∀k,M k→k<f.w.heap.size∧¬ f.G k)(u:fC (fun g=>g∈D.bl) f m)(s:dM m.w l)(o:l.bl=D.bl):DI M v y m d (X.set i l):=by
 have c:∀g∈D.bl,g∈Go.Proofs.YtocgkfoifehcbaaGreat.bls d:=fun g p=>by rw[←h.bls];exact kB.2 ⟨D,mm hi,p⟩
 refine⟨h.gr.trans (u.mono c),fun t n=>?_,h.sub,?_⟩
 · obtain⟨j,a⟩:=ali n;by_cases e:i=j
   · subst e;rw[aeq (jt.1 hi).1]at a;injection a with a;subst a;exact s
   · rw[ahh e]at a;refine (h.ok t (mm a)).bZ fun g b=>?_;have q:g∈Go.Proofs.YtocgkfoifehcbaaGreat.bls X:=kB.2 ⟨t,mm a,b⟩;have:=w g (h.sub g (by rw[←h.bls];exact q));exact u.block g this.1 this.2 (fun r=>Tl (by rw[h.bls];exact x) e hi a r b)
 · rw [←h.bl,List.map_set,o];exact alj fun k=>by
     rw[ak8];split
     · rename_i e;subst e;have:=(jt.1 hi).1;rw[nw,lp this,Do,hi];rfl
     · rfl
theorem CZ{M:Nat→Prop}{f w:World}{o:aB}{ι:Env}{s:AS}{n X:List DB}{b:ab}{y x:Value}(a:DI M f y o n X)(d:HS M o w ι s)(L:look 700 s.r=some ⟨48,59,X.map DB.cells⟩)(C:y.oneCell'=true)(A:Rel (NN M ι) w ι (.agg (List.set (aA ({ b with Kids:=[] }:ab)) 58 (.ref 700))) x):
   w.os=f.os∧w.tape=f.tape∧w.output=f.output∧f.heap.size≤w.heap.size∧(∀k,k<f.heap.size→¬ k∈(⟨true,{ b with Kids:=[] },y,n⟩:DB).bl→w.heap[k]?=f.heap[k]?)∧dM w ⟨true,{ b with Kids:=[] },y,X⟩∧gP (.agg (DB.cells ⟨true,{ b with Kids:=[] },y,X⟩)) x:=by
 have B:ι 700=some y:=(d.pin 700 y (by rw[a.gr.pv];simp[nN])).1;refine⟨d.below.os.trans a.gr.os,d.below.tape.trans a.gr.tape,d.below.output.trans a.gr.output,RX a.gr.size d.below.size,fun k r F=>?_,?_,?_⟩
 · have h:¬ (nN f 700 y).G k:=fun q=>F (Ex q);have t:¬ k∈bls n:=fun J=>F (by simp only [DB.bl,n5]; exact .inr J);have u:¬ o.G k:=fun q=>by
     rcases a.gr.O k (.inr q)with p|p
     · exact absurd r (akX.2 p)
     · exact h p
   exact(d.below.block k (wl r a.gr.size) u).trans (a.gr.block k r h t)
 · obtain⟨v,xs,l,G,N,H,I⟩:=d.arrs 700 _ L (by rw[B];rfl);rw[B]at l;injection l with l;subst l
   refine .node _ y X xs (by simpa using G) H (fun j D m i c E=>?_) (fun D m=>(a.ok D m).bZ fun g K=>?_)
   · obtain⟨x,A,z⟩:=I j D.cells (by rw[Do,m];rfl) i c E;exact⟨x,A,Il E (z.flat (by decide))⟩
   · have e:=d.old g (a.sub g (by rw[←a.bls];exact kB.2 ⟨D,m,K⟩));exact d.below.block g e.1 e.2
 · exact GM A (by show 58<59;omega) rfl (G6 B) C
noncomputable section
variable(M:Nat→Prop)(c:World)(d:aB)(l:h8)(b:ab)(y:Value)(a Ds' X:List DB)(v5:Bool)(v6:Int)(f:DB)(o:Nat)
abbrev KY:Cx:=⟨bb,52,M,d⟩
abbrev qR:=bodyPost bb Tryz.f42 (fun e w'=>∃x,e=.returned x∧w'.os=c.os∧w'.tape=c.tape∧w'.output=c.output∧c.heap.size≤w'.heap.size∧(∀k,k<c.heap.size→¬ k∈(⟨true,{ b with Kids:=[] },y,a⟩:DB).bl→w'.heap[k]?=c.heap[k]?)∧dM w' f∧gP (.agg (DB.cells f)) x)
abbrev WI(e:dt)(s:AS):=VE (KY M d) (qR c b y a f) e .normal s
abbrev iP(n:Nat):aq:=.c (cat Tryz.f42 (pn n))
abbrev RR:dt:=[.b 0,iP 15]
abbrev TR:dt:=kl (KY M d) (qR c b y a f) RR (cat Tryz.f42 (pn 116)) o::RR
def sR:AS:=⟨[(1,.sl (lm bp l)),(2,.ptr 2 0),(4,.ptr 4 0),(5,.bool v5),(6,iI v6)],[(2,List.set (aA ({ b with Kids:=[] }:ab)) 58 (.ref 700)),(4,List.set (aA c7) 58 (.nils))],[(700,⟨48,59,lm DB.cells X⟩)],[2,4,700,1000700,700]⟩
variable{M c d l b y a Ds' X v5 v6 f o}
theorem ahF(s:DI M c y d a X)(e:y.oneCell'=true){z:ab}(t:f=⟨true,{ z with Kids:=[] },y,X⟩)(h:jI l b [] v5=some z):WI M c d b y a f [iP 15] (sR l b X v5 v6):=by
 refine bX (ks':=[iP 30,iP 31]) 1 (ai 4 (ac ?_));cases v5 with
 | false =>
   unfold jI at h;have p:=alG h;subst p;subst t;refine aJ 8 ?_;refine wI (l:=[.agg (List.set (aA ({ b with Kids:=[] }:ab)) 58 (.ref 700))]) (by kernel_rfl) (fun w ι x q r=>?_);obtain⟨g,i,j,k,m,n,o⟩:=CZ s q (by kernel_rfl) e r;exact⟨x,rfl,g,i,j,k,m,n,o⟩
 | true =>
   unfold jI at h;refine bX (ks':=[iP 124,iP 125,iP 63]) 2 (ai 4 ?_);obtain⟨u,h⟩|⟨u,h⟩:=ao h
   · refine aD 39 u ?_;refine aQ 8 4 ?_;obtain⟨A,h⟩:=aF h;refine au (bD bp bp A (eK) aT) (aQ 13 4 ?_);obtain⟨v,h⟩|⟨v,h⟩:=ao h
     · refine aD 48 v ?_;refine ac ?_;have p:=alG h;subst p;subst t;refine aJ 5 ?_;refine wI (l:=[.agg (List.set (aA ({ ({ b with Kind:=6 }:ab)with Kids:=[] }:ab)) 58 (.ref 700))]) (by kernel_rfl) (fun w ι x q r=>?_);obtain⟨g,i,j,k,m,n,o⟩:=CZ (b:={ b with Kind:=6 }) s q (by kernel_rfl) e r;exact⟨x,rfl,g,i,j,k,m,n,o⟩
     · refine aD 48 v ?_;refine ac ?_;have p:=alG h;subst p;subst t;refine aJ 5 ?_;refine wI (l:=[.agg (List.set (aA ({ b with Kids:=[] }:ab)) 58 (.ref 700))]) (by kernel_rfl) (fun w ι x q r=>?_);obtain⟨g,i,j,k,m,n,o⟩:=CZ s q (by kernel_rfl) e r;exact⟨x,rfl,g,i,j,k,m,n,o⟩
   · refine aD 39 u ?_;refine ac ?_;have p:=alG h;subst p;subst t;refine aJ 5 ?_;refine wI (l:=[.agg (List.set (aA ({ b with Kids:=[] }:ab)) 58 (.ref 700))]) (by kernel_rfl) (fun w ι x q r=>?_);obtain⟨g,i,j,k,m,n,o⟩:=CZ s q (by kernel_rfl) e r;exact⟨x,rfl,g,i,j,k,m,n,o⟩
def CG(l:h8)(D a:DB):Prop:=a.bl=D.bl∧((D.b.Kind == 1)=true→rJ bb 42 [.agg D.cells,.sl (lm bp l)] (fun g=>g∈D.bl) (fun w=>dM w D) (.agg a.cells) (fun w=>dM w a))∧((D.b.Kind == 1)=false→a=D)
structure Mx(a Ds' X:List DB)(i:Nat)(v5:Bool):Prop where
 len:X.length=a.length
 le:i≤a.length
 lo:∀j,j<i→X[j]?=Ds'[j]?
 hi:∀j,i≤j→X[j]?=a[j]?
 blocks:v5=(a.take i).any fun D=>D.b.Kind == 1
theorem ZY(hn:(bls a).Nodup)(T:Ds'.length=a.length)(P:∀(j:Nat) (D t:DB),a[j]?=some D→Ds'[j]?=some t→CG l D t)(F:a.length≤maxLen)(R:y.oneCell'=true){S:ab}(hz:f=⟨true,{ S with Kids:=[] },y,Ds'⟩)(h:jI l b [] (a.any fun D=>D.b.Kind == 1)=some S):
   ∀(m:Nat) {M:Nat→Prop} {d:aB} {X:List DB} {i:Nat} {v5:Bool} {v6:Int},v6=(i:Int)→Mx a Ds' X i v5→DI M c y d a X→a.length<m+i→LP (KY M d) (qR c b y a f) RR (cat Tryz.f42 (pn 116)) m (sR l b X v5 v6):=by
 intro m
 induction m with
 | zero=>intro M d X i v5 v6 _ n _ Z;have:=n.le;omega
 | succ m U =>
   intro M d X i v5 v6 hi n B Z;refine bj (bX (ks':=iP 464::iP 465::iP 233::TR M c d b y a f m) 2 (ai 3 (au (bv DB.cells X) (aQ 5 1 ?_))));by_cases q:i<a.length
   · have u:decide (v6<(X.length:Int))=true:=akZ (by rw [n.len]; omega);refine aD 12 u (ac ?_);have r:=n.hi i (la _);have p:a[i]?=some (a[i]'q):=j3 q;have o:Ds'[i]?=some (Ds'[i]'(by omega)):=j3 _;generalize a[i]'q=D at p;generalize Ds'[i]'(by omega:i<Ds'.length)=t at o;rw [p] at r;have s:X.getD v6.toNat default=D:=by
       rw[hi,rv,Int.toNat_natCast,r];rfl
     have k:aO v6 X.length=true:=by
       unfold aO;rw[iO];exact⟨akZ (by omega),akZ (by rw[n.len];omega)⟩
     have I:aa (v6+1)=((i+1:Nat):Int):=by
       rw[hi];unfold maxLen at F;have:(0:Int)≤(i:Int)+1∧(i:Int)+1<9223372036854775808:=by omega
       unfold aa;rw[alp];omega
     obtain⟨t1,t2,t3⟩:=P i D t p o;refine bX (ks':=iP 1864::iP 1865 :: .b 1::iP 467::TR M c d b y a f m) 5 (ai 3 (au (cp 700 59 DB.cells k) (aQ 5 1 (au (bJ 3 0 DB.cells DB.cells (bF k).2 aT) (ac ?_)))));cases A:(D.b.Kind == 1) with
     | true =>
       have v:((X.getD v6.toNat default).b.Kind == 1)=true:=by rw[s];exact A
       refine ah 21 v (bX (ks':=iP 7461 :: .b 1::iP 467::TR M c d b y a f m) 3 (bP [1,2,4,5,6] [2,4] [700] ?_));have H:rJ bb 42 [.agg (X.getD v6.toNat default).cells,.sl (lm bp l)] (fun g=>g∈D.bl) (fun w=>dM w D) (.agg t.cells) (fun w=>dM w t):=by rw[s];exact t2 A
       have G:∀g∈D.bl,g∈bls a:=fun g C=>kB.2 ⟨D,mm p,C⟩;refine acD 9 31 [(22,.ptr 2 58),(23,.ref 700),(24,iI v6),(25,.ptr 2 58),(26,.ref 700),(27,iI v6),(28,.eptr 700 59 v6.toNat 0),(29,.agg (X.getD v6.toNat default).cells),(30,.sl (lm bp l))] H (fun g C=>B.sub g (G g C))
         (fun w _ I=>(B.ok D (mm r)).bZ I)
         (ay (vz 6) (bh (cp 700 59 DB.cells (L:=X) (i:=v6) k) (bh (bJ 48 0 DB.cells DB.cells (bF k).2 aT) (ay [.v 0 1] Jy))))
         (ay (vz 6) (bh (cp 700 59 DB.cells (L:=X) (i:=v6) k) (bh (bJ 48 0 DB.cells DB.cells (bF k).2 aT) (ay [.v 0 1] Jy))))
         (fun V C Y W=>?_)
       have K:=B.put hn r W C Y t1;refine au (cp 700 59 DB.cells k) (au (dD 700 48 59 0 DB.cells DB.cells t (bF k).2 aT) (ac ?_));have x:Mx a Ds' (List.set X v6.toNat t) (i+1) true:=by
         have z:v6.toNat=i:=by omega
         rw[z];refine⟨by rw[akT];exact n.len,q,fun j E=>?_,fun j E=>?_,?_⟩
         · rw[ak8];split
           · rename_i e;subst e;rw[lp (by rw[n.len];exact q),o]
           · exact n.lo j (by omega)
         · rw[ahh (by omega)];exact n.hi j (by omega)
         · symm;rw[ahE];exact⟨D,mm (i:=i) (by rw[By,lp (by omega)];exact p),A⟩
       have N:DI M c y V a (List.set X v6.toNat t):=by
         have z:v6.toNat=i:=by omega
         rw[z];exact K
       exact ag 2 (bn (U (v6:=aa (v6+1)) I x N (by omega)))
     | false =>
       have v:((X.getD v6.toNat default).b.Kind == 1)=false:=by rw[s];exact A
       refine ah 21 v ?_;have x:Mx a Ds' X (i+1) v5:=by
         refine⟨n.len,q,fun j E=>?_,fun j E=>n.hi j (by omega),?_⟩
         · by_cases e:j=i
           · subst e;rw[r,o,t3 A]
           · exact n.lo j (by omega)
         · rw[n.blocks,List.take_succ,p,List.any_append];simp[A]
       exact ag 4 (bn (U (v6:=aa (v6+1)) I x B (by omega)))
   · have u:decide (v6<(X.length:Int))=false:=decide_eq_false (by rw[n.len];omega);refine aD 12 u (ac ?_);have O:i=a.length:=by have:=n.le;omega
     have J:X=Ds':=alj fun j=>by
       by_cases E:j<i
       · exact n.lo j E
       · rw[n.hi j (by omega),alu (by omega),alu (by omega)]
     have Q:v5=a.any fun D=>D.b.Kind == 1:=by rw[n.blocks,O,akO]
     subst J;rw[←Q]at h;exact ag 5 (ahF (v6:=v6) B R hz h)
end
theorem abN{l:h8}{b a:ab}{q f:d6}{c:Bool}(h:jI l { b with Kids:=q } f c=some a):jI l b [] c=some { a with Kids:=[] }∧a.Kids=f:=by
 unfold jI at h⊢;cases c with
 | false=>injection h with h;subst h;exact⟨rfl,rfl⟩
 | true =>
   simp only at h⊢;split at h
   · rename_i d;rw[lp d];obtain⟨g,h⟩:=aF h;rw[g];simp only[aE];split at h
     · rename_i e;rw[lp e];injection h with h;subst h;exact⟨rfl,rfl⟩
     · rename_i e;rw[kc e];injection h with h;subst h;exact⟨rfl,rfl⟩
   · rename_i d;rw[kc d];injection h with h;subst h;exact⟨rfl,rfl⟩
theorem UL(D:DB):D.plain.Kind=D.b.Kind:=by rw[DB.S5]
theorem Qd{N:Nat→Prop}{w:World}{ι:Env}{l:c6}{c d:AV}{x:Value}{q:Nat}(h:Rel N w ι (.agg (l.set q c)) x)(g:q<l.length)(n:∀v,Rel N w ι c v→Rel N w ι d v):Rel N w ι (.agg (l.set q d)) x:=by
 cases h with
 | agg _ _ vs f m j =>
   refine .agg _ _ vs (by simpa using f) m fun i a v b k=>?_;by_cases hi:i=q
   · subst hi;rw[aeq g]at b;injection b with b;subst b
     exact n v (j i c v (aeq g) k)
   · rw[ahh (fun e=>hi e.symm)]at b;exact j i a v (by rw[ahh (fun e=>hi e.symm)];exact b) k
theorem U7:∀{l:List DB},(bls l).Nodup→∀{D:DB},D∈l→D.bl.Nodup
 | [],_,D,a=>by cases a
 | d::r,h,D,a=>by
   have b:(d.bl++bls r).Nodup:=h;obtain⟨c,e,_⟩:=alK.1 b;rcases ol.1 a with rfl|a
   · exact c
   · exact U7 e a
noncomputable section
theorem NF:∀(m:Nat) {l:h8} {D:DB} {F:ab},iw l m D.plain=some F→D.nd=true→(∃w,dM w D)→D.bl.Nodup →
   ∃o:DB,o.plain=F∧o.bl=D.bl∧rJ bb 42 [.agg D.cells,.sl (lm bp l)] (fun g=>g∈D.bl) (fun w=>dM w D) (.agg o.cells) (fun w=>dM w o)
 | 0,_,_,_,h,_,_,_=>by cases h
 | m+1,l,⟨nd,b,y,d⟩,F,h,S,⟨w1,p0⟩,hn=>by
   simp only at S;subst S;have h:(kP (iw l m) (iM d)).bind (fun X=>jI l { b with Kids:=iM d } X ((iM d).any fun k=>k.Kind == 1))=some F:=h;obtain⟨X,l0,h⟩:=bind_some h;obtain⟨K,Z⟩:=abN h;obtain⟨g1,g2⟩:=PK l0;have L:((iM d).any fun k=>k.Kind == 1)=d.any fun D=>D.b.Kind == 1:=by
     rw[nF,List.any_map];congr 1;funext D;show(D.plain.Kind == 1)=_;rw[UL]
   rw[L]at K;cases p0 with
   | node _ _ _ xs I q0 i0 B =>
   have G:(bls d).Nodup:=by
     have:(⟨true,b,y,d⟩:DB).bl.Nodup:=hn;simp only[DB.bl]at this;exact(alK.1 this).2.1
   have T:∀g∈bls d,bu (some y)≠some g:=fun g J e=>by
     have h9:(⟨true,b,y,d⟩:DB).bl.Nodup:=hn;simp only[DB.bl,e]at h9;exact(List.nodup_cons.1 h9).1 J
   have step:∀(j:Nat) (D:DB),d[j]?=some D→∃o:DB,CG l D o∧X[j]?=some o.plain:=fun j D s=>by
     obtain⟨k',r,t⟩:=g2 j D.plain (by rw[nF,Do,s];rfl);rw[UL]at t;have C:=mm s;cases U:(D.b.Kind == 1) with
     | true =>
       rw[U]at t;have g0:D.nd=true:=by
         have hk:=B D C;cases hk with
         | leaf b0 y0 h0 A0 c0 r0=>exact absurd (by simpa using U) h0
         | node b0 y0 k0 x0=>rfl
       have f0:D.bl.Nodup:=U7 G C;obtain⟨o,q1,q2,q3⟩:=NF m (by simpa using t) g0 ⟨w1,B D C⟩ f0;exact⟨o,⟨q2,fun _=>q3,fun hf=>by rw[U]at hf;cases hf⟩,by rw[r,q1]⟩
     | false =>
       rw[U]at t;have Y:D.plain=k':=by simpa using t
       exact⟨D,⟨rfl,fun ht=>(by rw[U]at ht;cases ht),fun _=>rfl⟩,by rw[r,Y]⟩
   obtain⟨Ds',Q,u⟩:=EZ (P:=fun j (D o:DB)=>CG l D o∧X[j]?=some o.plain) d 0 (fun j D s=>by rw[IF];exact step j D s);have o0:∀(j:Nat) (D o:DB),d[j]?=some D→Ds'[j]?=some o→CG l D o:=fun j D o s e0=>by
     obtain⟨D2,r,t,_⟩:=u j D s;rw[e0]at r;injection r with r;subst r;exact t
   have m0:iM Ds'=X:=by
     rw[nF];refine alj fun j=>?_;rw[Do];by_cases hj:j<d.length
     · obtain⟨D2,r,_,Y⟩:=u j _ (j3 hj);rw[IF]at Y;rw[r,Y];rfl
     · rw[alu (by omega),alu (by rw[g1,nF,nw];omega)];rfl
   have O:bls Ds'=bls d:=by
     rw[qg,qg,EC (f:=DB.bl) (g:=DB.bl) Q fun j a z=>by obtain⟨D2,r,t,_⟩:=u j a z;exact⟨D2,r,t.1⟩]
   have W:∃A n c,y=.slice A n c:=by
     rcases I.2 with⟨e,_⟩|⟨g,a0,d0,e,_⟩
     · exact⟨_,_,_,e⟩
     · exact⟨_,_,_,e⟩
   have R:d.length≤maxLen:=by
     rcases I.2 with⟨_,e⟩|⟨g,a0,d0,_,_,_,r,t,_⟩
     · rw[e];exact u4 _
     · exact RX r t
   have V:y.oneCell'=true:=by obtain⟨A,n,c,rfl⟩:=W;rfl
   have H:(aA ({ b with Kids:=[] }:ab)).length=59:=rfl;refine⟨⟨true,{ F with Kids:=[] },y,Ds'⟩,?_,?_,?_⟩
   · show({ F with Kids:=iM Ds' }:ab)=F;rw[m0];subst Z;cases F;rfl
   · simp only[DB.bl,O]
   refine YP (id0:=700) (v0:=y) (ar:=⟨48,59,d.map DB.cells⟩) (args':=[.agg (List.set (aA ({ b with Kids:=[] }:ab)) 58 (.ref 700)),.sl (lm bp l)]) (c:=cat Tryz.f42 (pn 1)) Tryz.func42 (by kernel_rfl) _ Tryz.ntmps42 (lc (by kernel_rfl)) rfl (fun g J=>Ex J) (fun w hw=>?_) (fun N w i a b9 x z E hr=>?_) (fun M w hM hw=>?_)
   · cases hw with
     | node _ _ _ xs K Z h3 h4 =>
       refine⟨xs,by simpa using K,fun e he=>?_,Z,fun j e he i c hc=>?_⟩
       · obtain⟨D,_,rfl⟩:=Dy.1 he;exact DB.Yk D
       · have q:(d.map DB.cells)[j]?=some e:=he;rw[Do]at q;cases s:d[j]? with
         | none=>rw[s]at q;cases q
         | some D=>rw[s]at q;injection q with q;subst q;exact h3 j D s i c hc
   · match i,z,E with
     | 0,z,E =>
       injection z with z;injection E with E;subst z;subst E
       have hp:=GM (y:=y) (show Rel N w bH (.agg (List.set (aA ({ b with Kids:=[] }:ab)) 58 (.vv y))) x from hr) (by rw[H];omega) rfl (fun v hv=>by cases hv;rfl) V;refine Qd (hp N w (ext bH 700 y)) (by rw[H];omega) (fun v hv=>?_);cases hv;obtain⟨A,n,c,rfl⟩:=W;exact .ref _ _ _ _ _ (cJ _ _ _)
     | 1,z,E =>
       injection z with z;injection E with E;subst z;subst E
       exact hr.pure rfl _
   · have hf:DI M w y (nN w 700 y) d d:=⟨.refl _ _,fun D s=>(by cases hw with|node _ _ _ xs K Z h3 h4=>exact h4 D s),fun g J=>hM g (by simp only[DB.bl,n5];exact .inr J) (T g J),rfl⟩;exact bg ⟨[(0,.agg (List.set (aA ({ b with Kids:=[] }:ab)) 58 (.ref 700))),(1,.sl (lm bp l))],[],[(700,⟨48,59,d.map DB.cells⟩)],[700,1000700]⟩ (ag 8 (ca (p:=pn 58) (d.length+1) (ZY (Ds':=Ds') (b:=b) (v6:=0) (v5:=false) (i:=0) G Q o0 R V rfl K (d.length+1) rfl ⟨rfl,u4 _,fun j hj=>absurd hj (Nat.not_lt_zero _),fun j _=>rfl,rfl⟩ hf (by omega))))
section
variable(M:Nat→Prop)(c:aB)(r:ab)(a X:h8)(v4:Int)(d:Nat)
abbrev HZ:Cx:=⟨bb,36,M,c⟩
abbrev qS:=bodyPost bb Tryz.f13 (bI M c (fun v _=>v=.agg (aA r)))
abbrev Zd(a:dt)(s:AS):=VE (HZ M c) (qS M c r) a .normal s
abbrev fz(n:Nat):aq:=.c (cat Tryz.f13 (pn n))
abbrev RS:dt:=[.b 0,fz 15]
abbrev TS:dt:=kl (HZ M c) (qS M c r) RS (cat Tryz.f13 (pn 116)) d::RS
def sS:AS:=⟨[(0,.sl (lm bp a)),(2,.ptr 2 0),(3,.ref 300),(4,iI v4)],[(2,List.set (aA c7) 58 (.nils))],[(300,⟨37,58,lm bp X⟩)],[2,300]⟩
variable{M c r a X v4 d}{K:Kn}{n:Nat}
theorem ahi{t:ab×Int}(hX:X=a.map fu)(S:kZ K n n X 0=some t)(L:iw X n t.1=some r):Zd M c r [fz 15] (sS a X v4):=by
 refine bX (ks':=[fz 30,fz 31]) 1 (iz 300 (ai 1 ?_));refine PC (Rz n S) (fun v w b2 W P H hG E=>?_);obtain⟨⟨nd,A,C,B⟩,q,G,I,s,o,F⟩:=W;simp only at q;subst q;subst I;rw[←G]at L;obtain⟨⟨j,e,i,f⟩,q1,Q,q3⟩:=NF n L rfl ⟨_,s⟩ F;refine⟨fun g=>g∈(⟨true,A,C,B⟩:DB).bl,o,?_⟩;refine ac (bX (ks':=[fz 62,fz 63]) 1 (ai 2 ?_));refine Wu q3 (fun k y=>.inr y) (fun w _ hw=>s.bZ hw) (fun R hg Y V=>?_);refine ac (aJ 1 ?_);refine wI (l:=[.agg (DB.cells ⟨j,e,i,f⟩)]) (by kernel_rfl) (fun w' ι x z hx=>?_);have p:fC (fun g=>g∈(⟨true,A,C,B⟩:DB).bl) c R:=(E.mono (fun _ h=>h.elim)).trans hg;have O:∀g,g∈(⟨true,A,C,B⟩:DB).bl→c.w.heap.size≤g:=fun g d=>RX H (o g d).1;refine⟨x,.agg (aA r),_,ι,rfl,rfl,z.acS p O (fun k y=>⟨.inl y,P k y⟩),?_⟩;have u:dM w' ⟨j,e,i,f⟩:=Y.bZ fun g d=>by
   rw[Q]at d;have:=z.old g (.inr d);exact z.below.block g this.1 this.2
 have D:=u.rel (N:=NN M ι) (fun g d m=>by
   rw[Q]at d;rcases m with m|⟨id,m⟩
   · have T:=(P g m).1;have U:=O g d;exact absurd T (akX.2 U)
   · exact z.sep (.inr d) m)
 have J:Rel (NN M ι) w' ι (.agg (DB.cells ⟨j,e,i,f⟩)) x:=hx.mono (la _) (fun b _ Z=>Z.elim (fun h=>.inl (.inl h)) .inr) (fun _ _ _=>rfl) (fun _ _ h=>h);rw[←dW,← q1,DB.Ow];exact Qd J (by show 58<59;omega) (fun v I=>by cases I;exact D.pure rfl _)
theorem afQ{t:ab×Int}(d:fits a.length 480=true)(q:kZ K n n (a.map fu) 0=some t)(s:iw (a.map fu) n t.1=some r):
   ∀(m:Nat) {X:h8} {i:Nat} {v4:Int},v4=(i:Int)→X=(a.take i).map fu→i≤a.length→a.length<m+i→LP (HZ M c) (qS M c r) RS (cat Tryz.f13 (pn 116)) m (sS a X v4):=by
 have o:a.length≤maxLen:=by
   unfold fits at d;simp only[iO,q6]at d;exact d.1
 intro m
 induction m with
 | zero=>intro X i v4 _ _ q s;omega
 | succ m w =>
   intro X i v4 hi j x z;refine bj (bX (ks':=fz 464::fz 465::fz 233::TS M c r m) 2 (ai 2 (au (bv bp a) (aQ 4 1 ?_))));by_cases f:i<a.length
   · have g:decide (v4<(a.length:Int))=true:=akZ (by omega);refine aD 11 g (ac ?_);have l:aO v4 a.length=true:=by
       unfold aO;rw[iO];exact⟨akZ (by omega),akZ (by omega)⟩
     have v:aa (v4+1)=((i+1:Nat):Int):=by
       rw[hi];unfold maxLen at o;unfold aa;rw[alp];omega
     have k:a.getD v4.toNat default=a[i]:=by
       rw[hi,rv,Int.toNat_natCast,j3 f];rfl
     refine bX (ks':=fz 1864::fz 1865 :: .b 1::fz 467::TS M c r m) 5 (ai 2 (au (bD bp bp l (eK) aT) (ac (bX (ks':=fz 7461::fz 3731 :: .b 1::fz 467::TS M c r m) 3 ?_))));have e:X++[fu (a.getD v4.toNat default)]=(a.take (i+1)).map fu:=by
       rw[j,k,List.take_succ,j3 f,MO];rfl
     have b:fits (X.length+[fu (a.getD v4.toNat default)].length) 480=true:=by
       have y:X.length=i:=by rw[j,nw,afN];omega
       unfold fits at d⊢;simp only[iO,q6,List.length_singleton]at d⊢;omega
     cases p:((a.getD v4.toNat default).Style.Position == 2) with
     | true =>
       refine ah 21 p (bX (ks':=fz 3731 :: .b 1::fz 467::TS M c r m) 2 (ai 2 ?_));have h:fu (a.getD v4.toNat default)={ a.getD v4.toNat default with Style:={ (a.getD v4.toNat default).Style with Position:=0 } }:=by unfold fu;rw[lp p]
       rw[h]at e b;exact au (gt bp [{ a.getD v4.toNat default with Style:={ (a.getD v4.toNat default).Style with Position:=0 } }] (new:=[bp { a.getD v4.toNat default with Style:={ (a.getD v4.toNat default).Style with Position:=0 } }]) rfl) (au (cG 27 300 37 58 bp (rfl) (eK) b) (ac (ag 2 (bn (w (v4:=aa (v4+1)) v e f (by omega))))))
     | false =>
       refine ah 21 p (bX (ks':=fz 3731 :: .b 1::fz 467::TS M c r m) 2 (ai 2 ?_));have h:fu (a.getD v4.toNat default)=a.getD v4.toNat default:=by unfold fu;rw[kc (by rw[p];simp)]
       rw[h]at e b;exact au (gt bp [a.getD v4.toNat default] (new:=[bp (a.getD v4.toNat default)]) rfl) (au (cG 27 300 37 58 bp (rfl) (eK) b) (ac (ag 2 (bn (w (v4:=aa (v4+1)) v e f (by omega))))))
   · have g:decide (v4<(a.length:Int))=false:=decide_eq_false (by omega);refine aD 11 g (ac ?_);have u:i=a.length:=by omega
     rw[u,akO]at j;rw[←j]at q s;exact ag 5 (ahi (v4:=v4) j q s)
theorem aiP(h:sN K n a=some r):aY bb 13 [.sl (lm bp a)] (fun v _=>v=.agg (aA r)):=by
 unfold sN at h;obtain⟨b,h⟩:=aF h;obtain⟨t,d,e⟩:=bind_some h;exact bG (cat Tryz.f13 (pn 1)) Tryz.func13 Tryz.ntmps13 fun M c=>(bg ⟨[(0,.sl (lm bp a))],[],[],[]⟩ (bX (ks':=[fz 58,.b 0,fz 15]) 8 (bP [0,2,3,4] [2] [] (eW 300 3 37 58 (ag 0 (ca (p:=pn 58) (a.length+1) (afQ b d e (a.length+1) (X:=[]) (i:=0) rfl rfl (u4 _) (by omega))))))))
end
end
theorem ahB[GS]{K:Kn}{n:Nat}{a:h8}{r:ab}(b:am K)(h:sN K n a=some r):aY bb 13 [.sl (lm bp a)] (fun v _=>v=.agg (aA r)):=aiP h
noncomputable section
variable[GS](M:Nat→Prop)(b:aB)(r:Bool)(a v2:ae)(e:Bool)(v6:Int)(c:Nat)(d:Int→Option Bool)
abbrev J9:Cx:=⟨bb,116,M,b⟩
abbrev IV:=bodyPost bb Tryz.f16 (bI M b (fun v _=>v=.bool r))
abbrev Og(a:dt)(s:AS):=VE (J9 M b) (IV M b r) a .normal s
abbrev Cl(n:Nat):aq:=.c (cat Tryz.f16 (pn n))
abbrev Hx:dt:=[.b 0,Cl 15]
abbrev aaV:dt:=kl (J9 M b) (IV M b r) Hx (cat Tryz.f16 (pn 116)) c::Hx
def NL:AS:=⟨[(2,.ptr 2 0),(3,.ptr 3 0),(5,iI v6)],[(2,aG a),(3,aG v2)],[],[2,3]⟩
def ZF:AS:=⟨[(2,.ptr 2 0),(3,.ptr 3 0),(96,.bool e)],[(2,aG a),(3,aG v2)],[],[2,3]⟩
abbrev Sm:Prop:=∀{v6:Int},d v6=some r→LP (J9 M b) (IV M b r) Hx (cat Tryz.f16 (pn 116)) c (NL a v2 v6)
variable{M b r a v2 e v6 c d}{K:Kn}{n:Nat}
theorem akE(m:am K)(k:Sm M b r a v2 c d)(h:xw K n a v2 d v6=some r):Og M b r (Cl 116::aaV M b r c) (NL a v2 v6):=by
 unfold xw at h;refine cb 4 5 3 2 (ai 3 (au (bv aM a.Kids) (ac ?_)));obtain⟨e,h⟩|⟨e,h⟩:=ao h
 ·refine ah 101 e (cL 8 9 1 3 5 (bP [2,3,5] [2,3] [] ?_));obtain⟨g,h⟩:=aF h;obtain⟨i,h⟩:=aF h;obtain⟨l,j,h⟩:=bind_some h;refine bQ 0 (nu 104 [.ptr 2 66,.sl (lm aM a.Kids),iI v6,.cptr (aG (gD a.Kids v6)),.agg (aG (gD a.Kids v6)),.ptr 3 66,.sl (lm aM v2.Kids),iI v6,.cptr (aG (gD v2.Kids v6)),.agg (aG (gD v2.Kids v6)),.bool l,.bool (!l)]) [] [] [] (ay (vz 3) (bh (bD aM aG g (ku) (dH)) (ay (vz 4) (bh (bD aM aG i (ku) (dH)) (ay [.v 0 1] (aj (cv 0 1 114 (m.yD j)) (ay [.v 0 1] bR))))))) ?_;obtain⟨f,h⟩|⟨f,h⟩:=ao h
  ·refine ah 115 f (aJ 9 ?_);cases h;exact bw
  ·exact ah 115 f (ag 4 (bn (k h)))
 ·refine ah 101 e (aJ 8 ?_);cases h;exact bw
theorem ZX(c:am K)(m:Nat):Sm M b r a v2 m (sQ K n a v2 m):=by
 induction m with
 | zero=>intro v6 h;cases h
 | succ m d=>intro v6 h;have h:xw K n a v2 (sQ K n a v2 m) v6=some r:=h;exact bj (akE c d h)
theorem jz(d:am K)(h:gJ K n a v2 e=some r):Og M b r [Cl 13,Cl 7] (ZF a v2 e):=by
 unfold gJ at h;obtain⟨c,h⟩|⟨c,h⟩:=ao h
 ·refine ah 96 c (aJ 5 ?_);cases h;exact bw
 ·exact ah 96 c (ag 6 (ca (p:=pn 58) n (ZX d n h)))
theorem H8(c:am K)(h:qM K n a v2=some r):aY bb 16 [.agg (aG a),.agg (aG v2)] (fun v _=>v=.bool r):=by
 refine bG (cat Tryz.f16 (pn 1)) Tryz.func16 Tryz.ntmps16 fun M b=>(bg ⟨[(0,.agg (aG a)),(1,.agg (aG v2))],[],[],[]⟩ ?_);unfold qM at h;refine cb 12 13 7 4 (ai 6 ?_);obtain⟨g,h⟩|⟨g,h⟩:=ao h
 ·exact aD 11 g (ac (ag 0 (jz c h)))
 ·refine aD 11 g (aQ 13 7 ?_);obtain⟨i,h⟩|⟨i,h⟩:=ao h
  ·exact aD 18 i (ac (ag 0 (jz c h)))
  ·refine aD 18 i (aQ 20 7 ?_);obtain⟨j,h⟩|⟨j,h⟩:=ao h
   ·exact aD 25 j (ac (ag 0 (jz c h)))
   ·refine aD 25 j (aQ 27 7 ?_);obtain⟨k,h⟩|⟨k,h⟩:=ao h
    ·exact aD 32 k (ac (ag 0 (jz c h)))
    ·refine aD 32 k (aQ 34 7 ?_);obtain⟨l,h⟩|⟨l,h⟩:=ao h
     ·exact aD 39 l (ac (ag 0 (jz c h)))
     ·refine aD 39 l (aQ 41 7 ?_);obtain⟨m,h⟩|⟨m,h⟩:=ao h
      ·exact aD 46 m (ac (ag 0 (jz c h)))
      ·refine aD 46 m (aQ 48 7 ?_);obtain⟨o,h⟩|⟨o,h⟩:=ao h
       ·exact aD 53 o (ac (ag 0 (jz c h)))
       ·refine aD 53 o (aQ 55 7 ?_);obtain⟨p,h⟩|⟨p,h⟩:=ao h
        ·exact aD 60 p (ac (ag 0 (jz c h)))
        ·refine aD 60 p (aQ 62 7 ?_);obtain⟨q,h⟩|⟨q,h⟩:=ao h
         ·exact aD 67 q (ac (ag 0 (jz c h)))
         ·refine aD 67 q (aQ 69 7 ?_);obtain⟨d,h⟩|⟨d,h⟩:=ao h
          ·exact aD 74 d (ac (ag 0 (jz c h)))
          ·refine aD 74 d (aQ 76 7 ?_);obtain⟨e,h⟩|⟨e,h⟩:=ao h
           ·exact aD 81 e (ac (ag 0 (jz c h)))
           ·refine aD 81 e (aQ 83 7 ?_);obtain⟨f,h⟩|⟨f,h⟩:=ao h
            ·exact aD 88 f (ac (ag 0 (jz c h)))
            ·exact aD 88 f (aQ 85 2 (au (bv aM a.Kids) (aQ 88 2 (au (bv aM v2.Kids) (ac (ag 0 (jz c h)))))))
end
noncomputable section
variable[GS](M:Nat→Prop)(b:aB)(r:Bool)(a:ab)(v2 v5:Int)(c:Nat)(d:Int→Option Bool)
abbrev ID:Cx:=⟨bb,24,M,b⟩
abbrev Ic:=bodyPost bb Tryz.f29 (bI M b (fun v _=>v=.bool r))
abbrev akA(a:dt)(s:AS):=VE (ID M b) (Ic M b r) a .normal s
abbrev Vo(n:Nat):aq:=.c (cat Tryz.f29 (pn n))
abbrev Hq:dt:=[.b 0,Vo 15]
abbrev aa1:dt:=kl (ID M b) (Ic M b r) Hq (cat Tryz.f29 (pn 116)) c::Hq
def Mm:AS:=⟨[(1,iI v2),(2,.ptr 2 0),(5,iI v5)],[(2,aA a)],[],[2]⟩
abbrev Pc:Prop:=∀{v5:Int},d v5=some r→LP (ID M b) (Ic M b r) Hq (cat Tryz.f29 (pn 116)) c (Mm a v2 v5)
variable{M b r a v2 v5 c d}{K:Kn}{n:Nat}
theorem afb(k:am K)(g:Pc M b r a v2 c d)(h:z4 K n a v2 d v5=some r):akA M b r (Vo 116::aa1 M b r c) (Mm a v2 v5):=by
 unfold z4 at h;refine cb 4 5 3 2 (ai 3 (au (bv aL a.Kids) (ac ?_)));obtain⟨f,h⟩|⟨f,h⟩:=ao h
 ·refine ah 14 f (cL 8 9 1 3 5 (ai 3 ?_));obtain⟨i,h⟩:=aF h;refine au (bD aL aA i (fV) (dW)) (aQ 6 2 ?_);obtain⟨v6,j,h⟩:=bind_some h;refine aP (k.za j) (ac ?_);obtain⟨e,h⟩|⟨e,h⟩:=ao h
  ·refine ah 23 e (aJ 9 ?_);cases h;exact bw
  ·exact ah 23 e (ag 4 (bn (g h)))
 ·refine ah 14 f (aJ 8 ?_);cases h;exact bw
theorem aaP(c:am K)(m:Nat):Pc M b r a v2 m (s8 K n a v2 m):=by
 induction m with
 | zero=>intro v5 h;cases h
 | succ m d=>intro v5 h;have h:z4 K n a v2 (s8 K n a v2 m) v5=some r:=h;exact bj (afb c d h)
theorem FM(d:am K)(h:nS K n a v2=some r):aY bb 29 [.agg (aA a),iI v2] (fun v _=>v=.bool r):=by
 refine bG (cat Tryz.f29 (pn 1)) Tryz.func29 Tryz.ntmps29 fun M b=>(bg ⟨[(0,.agg (aA a)),(1,iI v2)],[],[],[]⟩ ?_);unfold nS at h;refine ax 13 7 5 ?_;obtain⟨c,h⟩|⟨c,h⟩:=ao h
 ·refine ah 9 c (aJ 5 ?_);cases h;exact bw
 ·exact ah 9 c (ag 6 (ca (p:=pn 58) n (aaP d n h)))
end
noncomputable section
variable[GS](M:Nat→Prop)(f:aB)(r:dO)(d:Fv)(v2:dO)(g b:Int)(a:dO)(i:Int)(j:dO)(l:Nat)(o:Int→Int→dO→Option dO)
abbrev Gr:Cx:=⟨bb,42,M,f⟩
abbrev Kf:=bodyPost bb Tryz.f66 (bI M f (fun v s=>v=.ref 9∧cq s.o []∧look 9 s.r=some (bt r)))
abbrev UB(a:dt)(s:AS):=VE (Gr M f) (Kf M f r) a .normal s
abbrev A3(n:Nat):aq:=.c (cat Tryz.f66 (pn n))
abbrev Ld:dt:=[.b 0,A3 31]
abbrev Th:dt:=kl (Gr M f) (Kf M f r) Ld (cat Tryz.f66 (pn 244)) l::Ld
def aka:AS:=⟨[(0,.ref 9),(1,.fn d.id d.aR),(5,iI i),(6,iI b)],[],[(9,(bt j))],[9]⟩
def QE:AS:=⟨[(0,.ref 9),(1,.fn d.id d.aR),(5,iI g),(6,iI b)],[],[(9,(bt a))],[9]⟩
abbrev Hm:Prop:=∀{g:Int} {b:Int} {a:dO},o g b a=some r→LP (Gr M f) (Kf M f r) Ld (cat Tryz.f66 (pn 244)) l (QE d g b a)
variable{M f r d v2 g b a i j l o}{K:Kn}{n:Nat}
theorem Nl(c:am K)(a:Hm M f r d l o)(h:xy K n d b o i j=some r):UB M f r (.b 1::A3 979::Th M f r l) (aka d b i j):=by
 unfold xy at h;exact ag 2 (bn (a h))
theorem Xs(y:am K)(p:Hm M f r d l o)(h:z0 K n d o g b a=some r):UB M f r (A3 244::Th M f r l) (QE d g b a):=by
 unfold z0 at h;refine cb 4 5 3 2 (ai 2 (au (bv aK a) (ac ?_)));obtain⟨c,h⟩|⟨c,h⟩:=ao h
 ·refine ah 19 c (cL 8 9 1 3 5 (ai 2 ?_));obtain⟨j,h⟩:=aF h;refine au (cp 9 127 aK j) (au (bJ 64 0 aK aK (bF j).2 aT) (ac (ax 2 3 1 (ai 2 ?_))));obtain⟨A,s,h⟩:=bind_some h;refine kG (y.mw s) (ac ?_);obtain⟨i,h⟩|⟨i,h⟩:=ao h
  ·refine ah 29 i (ax 4 5 2 (ai 3 ?_));obtain⟨m,h⟩:=aF h;exact au (cp 9 127 aK m) (au (dD 9 64 127 0 aK aK (gD a b) (bF m).2 aT) (ac (ag 1 (Nl y p h))))
  ·exact ah 29 i (ag 2 (Nl y p h))
 ·refine ah 19 c (gg 2 3 6 (ai 2 ?_));obtain⟨t,h⟩:=aF h;refine au (Wm aK a g (a.length:Int) 27 (.tmp 36) (some (.tmp 37)) none 38 (id:=9) (e:=64) (sz:=127) (et:=64) (by kernel_rfl) (by kernel_rfl) (by kernel_rfl) (by kernel_rfl) (by kernel_rfl) (by kernel_rfl) (by kernel_rfl) (fun k z=>by subst z;kernel_rfl) t) ?_;obtain⟨u,h⟩:=aF h;refine abp 9 64 127 (g.toNat) (((a.length:Int)).toNat-g.toNat) aK (L:=a) (Am:aw) (List.set (List.set (aK Am) 58 (.nils)) 126 (.nils)) (x:=(.tmp 38)) (T:=27) (bytes:=1112) u (ac ?_);obtain⟨q,v,h⟩:=bU h;refine bA (ks':=[A3 126,A3 127]) 1 ⟨[(0,.ref 9),(5,iI g)],[],[(9,(bt q))],[9]⟩ ?_ (by subst v;kernel_rfl);refine ai 2 ?_;obtain⟨w,h⟩:=aF h;refine akJ 41 9 64 64 127 aK (L:=q) (x:=(.tmp 39)) (hi:=(.tmp 40)) (T:=27) (kd:=.i64) (n:=g) w (ac (aJ 1 ?_));cases h;exact ex
theorem XJ(c:am K)(m:Nat):Hm M f r d m (tB K n d m):=by
 induction m with
 | zero=>intro g b a h;cases h
 | succ m e=>intro g b a h;have h:z0 K n d (tB K n d m) g b a=some r:=h;exact bj (Xs c e h)
theorem ad3(b:am K)(h:wX K n d v2=some r):iX bb 66 [.ref 9,.fn d.id d.aR] [] 9 (bt v2) [9] (fun v s=>v=.ref 9∧cq s.o []∧look 9 s.r=some (bt r)):=by
 refine lA (c:=cat Tryz.f66 (pn 1)) Tryz.func66 (by kernel_rfl) _ Tryz.ntmps66 (lc (by kernel_rfl)) fun M f=>(bg ⟨[(0,.ref 9),(1,.fn d.id d.aR)],[],[(9,(bt v2))],[9]⟩ ?_);unfold wX at h;refine ax 6 7 3 (ai 2 ?_);obtain⟨g,e,h⟩:=bind_some h;refine Ny (PV b e) (ac (ax 5 3 3 ?_));obtain⟨a,h⟩|⟨a,h⟩:=ao h
 ·refine ah 12 a (aJ 5 ?_);cases h;exact ex
 ·exact ah 12 a (ag 6 (ca (p:=pn 122) n (XJ b n h)))
end
noncomputable section
variable[GS](M:Nat→Prop)(b:aB)(r:Bool)(a:ab)(v2:Int)  
variable{M b r a v2}{K:Kn}{n:Nat}
theorem Xn(d:am K)(h:Hk K n a v2=some r):aY bb 120 [.agg (aA a),.cptr ([iI v2])] (fun v _=>v=.bool r):=by
 refine bG (cat Tryz.f120 (pn 1)) Tryz.func120 Tryz.ntmps120 fun M b=>(bg ⟨[(0,.agg (aA a)),(1,.cptr ([iI v2]))],[],[],[]⟩ ?_);unfold Hk at h;refine ax 6 7 3 (ai 2 ?_);obtain⟨e,c,h⟩:=bind_some h;refine aP (d.Ch c) (ac (aJ 1 ?_));cases h;exact bw
end
noncomputable section
variable[GS](M:Nat→Prop)(a:aB)(r:Bool)(b:ab)(v2:Int)(v4:Bool)  
abbrev ah0(n:Nat):aq:=.c (cat Tryz.f68 (pn n))
abbrev aiq:Cx:=⟨bb,15,M,a⟩
abbrev YW:=bodyPost bb Tryz.f68 (bI M a (fun v _=>v=.bool r))
abbrev af9(b:dt)(s:AS):=VE (aiq M a) (YW M a r) b .normal s
def Z6:AS:=⟨[(4,.bool v4)],[],[],[]⟩
variable{M a r b v2 v4}{K:Kn}{n:Nat}
theorem O4(b:am K)(h:sW K n v4=some r):af9 M a r [ah0 7] (Z6 v4):=by
 unfold sW at h;refine aJ 1 ?_;cases h;exact bw
theorem VI(d:am K)(h:pc K n b v2=some r):aY bb 68 [.agg (aA b),iI v2] (fun v _=>v=.bool r):=by
 refine bG (cat Tryz.f68 (pn 1)) Tryz.func68 Tryz.ntmps68 fun M a=>(bg ⟨[(0,.agg (aA b)),(1,iI v2)],[],[],[]⟩ ?_);unfold pc at h;refine ax 6 7 3 (ai 5 ?_);obtain⟨c,h⟩|⟨c,h⟩:=ao h
 ·exact aD 9 c (ac (ag 0 (O4 d h)))
 ·refine aD 9 c (aQ 7 2 (ld 3 3 ([iI v2]) (nO 120 #[(.tmp 3)] [.cptr ([iI v2])] ?_)));obtain⟨f,e,h⟩:=bind_some h;exact aP (Jw d e) (ac (ag 0 (O4 d h)))
end
noncomputable section
variable[GS](M:Nat→Prop)(b:aB)(r:Bool)(a:aw)(v2:Int)  
variable{M b r a v2}{K:Kn}{n:Nat}
theorem abj(d:am K)(h:KV K n a v2=some r):aY bb 67 [.agg (aK a),.cptr ([iI v2])] (fun v _=>v=.bool r):=by
 refine bG (cat Tryz.f67 (pn 1)) Tryz.func67 Tryz.ntmps67 fun M b=>(bg ⟨[(0,.agg (aK a)),(1,.cptr ([iI v2]))],[],[],[]⟩ ?_);unfold KV at h;refine ax 6 7 3 (ai 3 ?_);obtain⟨e,c,h⟩:=bind_some h;refine aP (VI d c) (ac (aJ 1 ?_));cases h;exact bw
end
noncomputable section
variable[GS](M:Nat→Prop)(d:aB)(r:Int×Int×Int×dO)(a v2 b:Int)(v4:dO)  
abbrev Mq(n:Nat):aq:=.c (cat Tryz.f30 (pn n))
variable{M d r a v2 b v4}{K:Kn}{n:Nat}[SG d]
theorem ajX(g:am K)(h:tp K n a v2 b v4=some r):eA bb 30 [.ptr 440001 0,iI a] [(af v2 b)] (bt v4) (fun v s=>v=iI r.1∧cq s.o [(af r.2.1 r.2.2.1)]∧look 440009 s.r=some (bt r.2.2.2)):=by
 refine jC (c:=cat Tryz.f30 []) Tryz.func30 (by kernel_rfl) _ Tryz.ntmps30 (lc (by kernel_rfl)) fun M d=>(bg ⟨[(0,.ptr 440001 0),(1,iI a)],[(af v2 b)],[(440009,(bt v4))],[440009,440001,1440001]⟩ ?_);unfold tp at h;refine bX (ks':=[Mq 13,Mq 7]) 5 ?_;obtain⟨e,h⟩|⟨e,h⟩:=ao h
 ·refine ah 7 e (aJ 5 ?_);cases h;exact ex
 ·refine ah 7 e (fN 2 3 3 (ai 4 (au (bv aK v4) (ac (ax 2 3 1 (ai 5 (ld 3 3 ([iI a]) (nO 67 #[(.tmp 3)] [.cptr ([iI a])] ?_))))))));obtain⟨v5,f,h⟩:=bind_some h;refine jw 440009 9 [] (ad3 g f) (ac (ax 2 3 1 (ai 5 (au (bv aK v5) (ac (aJ 1 ?_))))));cases h;exact ex
end
noncomputable section
variable(M:Nat→Prop)(i:aB)(r:Bool)(C:h8)(v2 f:Int)(v6:ab)(d:ae×Int×Int×dO)(a j g:Int)(o:Bool)(q t:Int)(c:Int×Int×Int×dO)(u:Bool)(k:Int)(w:Bool)(x:Nat)(y:Bool)(l A:Nat)(z:Int→Int→Int→Option Bool)(B:Int→Option Bool)
abbrev AN:Cx:=⟨bb,90,M,i⟩
abbrev q8:=bodyPost bb Tryz.f8 (bI M i (fun v _=>v=.bool r))
abbrev rK(a:dt)(s:AS):=VE (AN M i) (q8 M i r) a .normal s
abbrev jT(n:Nat):aq:=.c (cat Tryz.f8 (pn n))
abbrev Jh:dt:=[.b 2,jT 4095]
abbrev Tk:dt:=kl (AN M i) (q8 M i r) Jh (cat Tryz.f8 (pn 32756)) A::Jh
abbrev GO:dt:=[.b 0,jT 1023]
abbrev FJ:dt:=kl (AN M i) (q8 M i r) GO (cat Tryz.f8 (pn 8180)) l::GO
def Ze:AS:=⟨[(2,iI f),(7,.ptr 7 0),(8,.ptr 8 0),(9,.ptr 9 0),(10,iI (Int.tmod (aa v2) 32)),(11,iI q),(12,iI t),(31,.ref 400007),(32,iI (d.2.2.2.length:Int)),(33,iI g)],[(7,List.set (bq (⟨[],d.2.1,d.2.2.1⟩:bm)) 0 (.ref 400007)),(8,aA v6),(9,aG d.1)],[(400007,(bt d.2.2.2))],[7,8,9,400007]⟩
def ad0:AS:=⟨[(2,iI f),(7,.ptr 7 0),(8,.ptr 8 0),(9,.ptr 9 0),(10,iI (Int.tmod (aa v2) 32)),(11,iI a),(12,iI j),(31,.ref 400007),(32,iI (d.2.2.2.length:Int)),(33,iI g),(44,.bool o)],[(7,List.set (bq (⟨[],d.2.1,d.2.2.1⟩:bm)) 0 (.ref 400007)),(8,aA v6),(9,aG d.1)],[(400007,(bt d.2.2.2))],[7,8,9,400007]⟩
def Xw:AS:=⟨[(2,iI f),(7,.ptr 7 0),(8,.ptr 8 0),(9,.ptr 9 0),(10,iI (Int.tmod (aa v2) 32)),(11,iI a),(62,.ref 400007),(63,iI (c.2.2.2.length:Int)),(64,iI k),(75,.bool w)],[(7,List.set (bq (⟨[],c.2.1,c.2.2.1⟩:bm)) 0 (.ref 400007)),(8,aA v6),(9,aG d.1)],[(400007,(bt c.2.2.2))],[7,8,9,400007]⟩
def afI:AS:=⟨[(6,.bool y)],[],[],[]⟩
def Td:AS:=⟨[(2,iI f),(7,.ptr 7 0),(8,.ptr 8 0),(9,.ptr 9 0),(10,iI (Int.tmod (aa v2) 32)),(11,iI a),(62,.ref 400007),(63,iI (c.2.2.2.length:Int)),(64,iI k)],[(7,List.set (bq (⟨[],c.2.1,c.2.2.1⟩:bm)) 0 (.ref 400007)),(8,aA v6),(9,aG d.1)],[(400007,(bt c.2.2.2))],[7,8,9,400007]⟩
def abx:AS:=⟨[(2,iI f),(7,.ptr 7 0),(8,.ptr 8 0),(9,.ptr 9 0),(10,iI (Int.tmod (aa v2) 32)),(11,iI a),(60,.bool u)],[(7,List.set (bq (⟨[],c.2.1,c.2.2.1⟩:bm)) 0 (.ref 400007)),(8,aA v6),(9,aG d.1)],[(400007,(bt c.2.2.2))],[7,8,9,400007]⟩
def UX:AS:=⟨[(2,iI f),(7,.ptr 7 0),(8,.ptr 8 0),(9,.ptr 9 0),(10,iI (Int.tmod (aa v2) 32)),(11,iI a),(12,iI j),(31,.ref 400007),(32,iI (d.2.2.2.length:Int)),(33,iI g)],[(7,List.set (bq (⟨[],d.2.1,d.2.2.1⟩:bm)) 0 (.ref 400007)),(8,aA v6),(9,aG d.1)],[(400007,(bt d.2.2.2))],[7,8,9,400007]⟩
abbrev B2:Prop:=∀{a:Int} {j:Int} {g:Int},z a j g=some r→LP (AN M i) (q8 M i r) GO (cat Tryz.f8 (pn 8180)) l (UX v2 f v6 d a j g)
abbrev HO:Prop:=∀{k:Int},B k=some r→LP (AN M i) (q8 M i r) Jh (cat Tryz.f8 (pn 32756)) A (Td v2 f v6 d a c k)
variable{M i r C v2 f v6 d a j g o q t c u k w x y l A z B}{K:Kn}{n:Nat}
theorem Sf(b:∀ [GS],am K)(a:B2 M i r v2 f v6 d l z)(h:AG K n v2 f v6 d g z q t=some r):rK M i r (.b 1::jT 65447::FJ M i r l) (Ze v2 f v6 d g q t):=by
 letI:GS:=⟨0⟩;have c:=@b ⟨0⟩
 unfold AG at h;exact ag 2 (bn (a h))
theorem S7(e:∀ [GS],am K)(c:B2 M i r v2 f v6 d l z)(h:wB K n v2 f v6 d a j g z o=some r):rK M i r (jT 523571 :: .b 1::jT 65447::FJ M i r l) (ad0 v2 f v6 d a j g o):=by
 letI:GS:=⟨0⟩;have k:=@e ⟨0⟩
 unfold wB at h;obtain⟨b,h⟩|⟨b,h⟩:=ao h
 ·exact ah 44 b (ag 2 (Sf e c h))
 ·exact ah 44 b (ag 2 (Sf e c h))
theorem TF(g:∀ [GS],am K)(e:HO M i r v2 f v6 d a c A B)(h:ss K n v2 f v6 d a c k B w=some r):rK M i r (jT 2096435 :: .b 3::jT 262055::Tk M i r A) (Xw v2 f v6 d a c k w):=by
 letI:GS:=⟨0⟩;have j:=@g ⟨0⟩
 unfold ss at h;obtain⟨b,h⟩|⟨b,h⟩:=ao h
 ·refine ah 75 b (aJ 9 ?_);cases h;exact bw
 ·exact ah 75 b (ag 4 (bn (e h)))
theorem TH(a:∀ [GS],am K)(h:zM K n y=some r):rK M i r [jT 8191] (afI y):=by
 letI:GS:=⟨0⟩;have b:=@a ⟨0⟩
 unfold zM at h;refine aJ 1 ?_;cases h;exact bw
theorem ahw(p:∀ [GS],am K)(u:HO M i r v2 f v6 d a c A B)(h:nD K n v2 f v6 d a c B k=some r):rK M i r (jT 32756::Tk M i r A) (Td v2 f v6 d a c k):=by
 letI:GS:=⟨0⟩;have w:=@p ⟨0⟩
 unfold nD at h;refine ax 6 7 3 ?_;obtain⟨l,h⟩|⟨l,h⟩:=ao h
 ·refine ah 65 l (cL 8 9 3 3 5 (ai 0 ?_));obtain⟨q,h⟩:=aF h;refine au (cp 400007 127 aK q) (au (bJ 64 0 aK aK (bF q).2 aT) (ac (ax 2 3 1 (ai 3 ?_))));obtain⟨m,h⟩|⟨m,h⟩:=ao h
  ·refine aD 70 m (aQ 6 3 ?_);obtain⟨y,v,h⟩:=bind_some h;exact aP (FM w v) (ac (ag 0 (TF p u h)))
  ·exact aD 70 m (ac (ag 0 (TF p u h)))
 ·refine ah 65 l (gg 2 3 6 (bP [2,7,8,9,10,11] [7,8,9] [400007] (Yl 10 7 7 fun x=>?_)));obtain⟨g,s,h⟩:=bind_some h;obtain⟨j,t,h⟩:=bind_some h;obtain⟨o,h⟩|⟨o,h⟩:=ao h
  ·exact bQ 2 (nu 77 [.agg (aG d.1),.agg (aA v6),iI f]++nu 81 [.bool j,.bool true,iI a,.bool (decide (a>0)),.ptr 7 1,iI g.2.1,.bool (decide (g.2.1>0)),.bool ((decide (a>0)) == (decide (g.2.1>0))),.bool ((decide (a>0)) == (decide (g.2.1>0)))]) [] [] [lR 7 400007 (some 80) (bt g.2.2.2) [(af g.2.1 g.2.2.1)] (.agg (aG g.1)),cf bb 90 Tryz.f8 (pn 8190) 13] (ay [.v 0 2,.v 0 1,.v 0 1] (aj (M3 0 10 7 400007 x (fun [GS]=>(z9 p s))) (aj (cv 1 1 81 (H8 w t)) (aj (cT 1 82 (e:=j) (b:=true) o) (ay [.v 1 1,.v 1 1,.v 1 1,.v 1 1,.v 1 1,.v 1 1,.v 1 1] (aj (cg 1) bR)))))) (ag 0 (TH p h))
  ·exact bQ 2 (nu 77 [.agg (aG d.1),.agg (aA v6),iI f]++nu 81 [.bool j,.bool false,bf,bf,bf,bf,bf,bf,.bool false]) [] [] [lR 7 400007 (some 80) (bt g.2.2.2) [(af g.2.1 g.2.2.1)] (.agg (aG g.1)),cf bb 90 Tryz.f8 (pn 8190) 13] (ay [.v 0 2,.v 0 1,.v 0 1] (aj (M3 0 10 7 400007 x (fun [GS]=>(z9 p s))) (aj (cv 1 1 81 (H8 w t)) (aj (cT 1 82 (e:=j) (b:=false) o) (aj (aC 1 1) (aj (aC 1 1) (aj (aC 1 1) (aj (aC 1 1) (aj (aC 1 1) (aj (aC 1 1) (ay [.v 1 1] (aj (cg 1) bR)))))))))))) (ag 0 (TH p h))
theorem aeW(b:∀ [GS],am K)(m:Nat):HO M i r v2 f v6 d a c m (ox K n v2 f v6 d a c m):=by
 letI:GS:=⟨0⟩;have g:=@b ⟨0⟩
 induction m with
 | zero=>intro k h;cases h
 | succ m e=>intro k h;have h:nD K n v2 f v6 d a c (ox K n v2 f v6 d a c m) k=some r:=h;exact bj (ahw b e h)
theorem Q7(e:∀ [GS],am K)(h:y8 K n v2 f v6 d a c u=some r):rK M i r [jT 4093,jT 2047] (abx v2 f v6 d a c u):=by
 letI:GS:=⟨0⟩;have g:=@e ⟨0⟩
 unfold y8 at h;obtain⟨b,h⟩|⟨b,h⟩:=ao h
 ·refine ah 60 b (aJ 5 ?_);cases h;exact bw
 ·exact ah 60 b (nR 4 5 3 4 (ai 2 (au (bv aK c.2.2.2) (ac (ag 1 (ca (p:=pn 16378) n (aeW e n h)))))))
theorem abk(m:∀ [GS],am K)(p:B2 M i r v2 f v6 d l z)(h:pe K n v2 f v6 d z a j g=some r):rK M i r (jT 8180::FJ M i r l) (UX v2 f v6 d a j g):=by
 letI:GS:=⟨0⟩;have t:=@m ⟨0⟩
 unfold pe at h;refine ax 6 7 3 ?_;obtain⟨b,h⟩|⟨b,h⟩:=ao h
 ·refine ah 34 b (cL 8 9 1 3 5 (ai 0 ?_));obtain⟨o,h⟩:=aF h;refine au (cp 400007 127 aK o) (au (bJ 64 0 aK aK (bF o).2 aT) (ac (ax 2 3 1 (ai 3 ?_))));obtain⟨e,h⟩|⟨e,h⟩:=ao h
  ·refine aD 39 e (aQ 6 3 ?_);obtain⟨u,q,h⟩:=bind_some h;exact aP (FM t q) (ac (ag 0 (S7 m p h)))
  ·exact aD 39 e (ac (ag 0 (S7 m p h)))
 ·refine ah 34 b (sv 4 5 3 7 (ai 1 ?_));obtain⟨c,s,h⟩:=bind_some h;refine CE 7 400007 (fun [GS]=>(ajX m s)) (aQ 5 3 ?_);obtain⟨k,h⟩|⟨k,h⟩:=ao h
  ·exact aD 54 k (ac (ag 0 (Q7 m h)))
  ·exact aD 54 k (aQ 7 2 (au (bv aK c.2.2.2) (ac (ag 0 (Q7 m h)))))
theorem aaI(b:∀ [GS],am K)(m:Nat):B2 M i r v2 f v6 d m (pg K n v2 f v6 d m):=by
 letI:GS:=⟨0⟩;have e:=@b ⟨0⟩
 induction m with
 | zero=>intro a j g h;cases h
 | succ m c=>intro a j g h;have h:pe K n v2 f v6 d (pg K n v2 f v6 d m) a j g=some r:=h;exact bj (abk b c h)
theorem ace(a:∀ [GS],am K)(h:DV K n C v2 f=some r):aY bb 8 [.sl (lm bp C),.int .u8 v2,iI f] (fun v _=>v=.bool r):=by
 letI:GS:=⟨0⟩;have e:=@a ⟨0⟩
 refine bG (cat Tryz.f8 (pn 1)) Tryz.func8 Tryz.ntmps8 fun M i=>(bg ⟨[(0,.sl (lm bp C)),(1,.int .u8 v2),(2,iI f)],[],[],[]⟩ ?_);unfold DV at h;refine cb 12 13 7 4 (ai 0 ?_);obtain⟨v4,g,h⟩:=bind_some h;refine aP (XG a g) (ac ?_);obtain⟨b,h⟩|⟨b,h⟩:=ao h
 ·refine ah 18 b (aJ 5 ?_);cases h;exact bw
 ·refine ah 18 b (nR 4 5 3 4 (ai 1 ?_));obtain⟨v5,j,h⟩:=bind_some h;refine aP (Yg e j) (ac ?_);obtain⟨c,h⟩|⟨c,h⟩:=ao h
  ·refine ah 21 c (aJ 5 ?_);cases h;exact bw
  ·refine ah 21 c (fN 6 7 5 (ai 1 ?_));obtain⟨v6,k,h⟩:=bind_some h;refine aP (ahB e k) (ac (ax 2 3 1 (ai 2 (D5 400007 7 0 64 127 ?_))));obtain⟨d,l,h⟩:=bind_some h;exact CE 7 400007 (fun [GS]=>(z9 a l)) (ac (cb 28 29 15 6 (ai 2 (au (bv aK d.2.2.2) (ac (ag 1 (ca (p:=pn 4090) n (aaI a n h))))))))
end
end Go.Proofs.YtocgkfoifehcbaaGreat

/- The runs of the functions that RelayoutTwice reaches do what their plain forms say, part 4. Made by a program. -/
import Derived.Test.YtocgkfoifehcbaaGreatRtP3
namespace Go.Proofs.YtocgkfoifehcbaaGreat
open Go.RowKit
set_option maxRecDepth 20000
set_option linter.all false
def tl:=@List.getD_eq_getElem?_getD
def acV:=@List.getElem?_set_self
def ag1:=@List.getElem?_set_ne
def aj6:=@decide_eq_true
def akH:=@List.getElem?_eq_none
def akV:=@Option.some.inj
def akY:=@List.nodup_append
structure DB where
 nd:Bool
 b:ab
 y:Value
 kids:List DB
instance:Inhabited DB:=⟨⟨false,c9,.nilIface,[]⟩⟩
def DB.cells(D:DB):c6:=List.set (aB ({ D.b with Kids:=[] }:ab)) 58 (.vv D.y)
theorem DB.YT(D:DB):D.cells.length=59:=rfl
mutual
def DB.plain:DB→ab
 | ⟨_,b,_,a⟩=>{ b with Kids:=iq a }
def iq:List DB→d3
 | []=>[]
 | d::r=>d.plain::iq r
end
theorem mK:∀l:List DB,iq l=l.map DB.plain
 | []=>rfl
 | d::r=>by simp[iq,mK r]
mutual
def DB.bl:DB→ed
 | ⟨b,_,y,a⟩=>match b with|true=>(match br (some y) with|some g=>[g]|none=>[])++bls a|false=>[]
def bls:List DB→ed
 | []=>[]
 | d::r=>d.bl++bls r
end
theorem Ko:∀(l m:List DB),bls (l++m)=bls l++bls m
 | [],m=>rfl
 | d::r,m=>by simp[bls,Ko r m]
theorem kP:∀{l:List DB} {g:Nat},g∈bls l↔∃d∈l,g∈d.bl
 | [],g=>by simp[bls]
 | d::r,g=>by simp[bls,kP (l:=r)]
theorem DB.Nq(D:DB):D.plain={ D.b with Kids:=D.kids.map DB.plain }:=by cases D;simp only[DB.plain,mK]
theorem DB.OJ(D:DB):aK D.plain=List.set (aB ({ D.b with Kids:=[] }:ab)) 58 (.sl (lm aK (D.kids.map DB.plain))):=by
 rw[dR,DB.Nq];rfl
theorem agc{y x:Value}(h:ic (.vv y) x):x=y:=by
 have:=h (fun _=>False) default bG;cases this;rfl
inductive dP (w:World):DB→Prop
 | leaf (b:ab) (y:Value) (hb:b.Kind≠1) (A:Option Addr) (c:Nat) (hy:y=.slice A 0 c):dP w ⟨false,b,y,[]⟩
 | node (b:ab) (y:Value) (kids:List DB) (xs:ee) (h1:w.ownsRow 0 48 59 y kids.length xs) (h2:∀ x∈xs,x.oneCell'=true)
     (h3:∀(j:Nat) (D:DB),kids[j]?=some D→∀(i:Nat) (c:AV),D.cells[i]?=some c→∃x,xs[j*59+i]?=some x∧ic c x) (h4:∀D∈kids,dP w D):dP w ⟨true,b,y,kids⟩
theorem PB{b:ab}{y:Value}{a:List DB}{D:DB}(h:D∈a){g:Nat}(c:g∈D.bl):g∈(⟨true,b,y,a⟩:DB).bl:=by
 simp only[DB.bl,nw];exact .inr (kP.2 ⟨D,h,c⟩)
theorem DT{b:ab}{y:Value}{a:List DB}{g:Nat}(c:br (some y)=some g):g∈(⟨true,b,y,a⟩:DB).bl:=by
 simp[DB.bl,c]
theorem dP.b8{w w':World}{D:DB}(h:dP w D):(∀g∈D.bl,w'.heap[g]?=w.heap[g]?)→dP w' D:=by
 induction h with
 | leaf b y l A c m=>intro _;exact .leaf b y l A c m
 | node b y a xs i j k o n=>intro f;exact .node b y a xs (fO i (fun g d=>f g (DT d))) j k (fun D e=>n D e (fun g d=>f g (PB e d)))
theorem dP.lt{w:World}{D:DB}(h:dP w D):∀g∈D.bl,g<w.heap.size:=by
 induction h with
 | leaf b y d A c p=>intro g a;cases a
 | node b y f xs i m n o k =>
   intro g a;simp only[DB.bl,nw]at a;rcases a with a|a
   · cases d:br (some y) with
     | none=>rw[d]at a;cases a
     | some l=>rw[d]at a;rw[aix.1 a];exact JF i d
   · obtain⟨D,j,e⟩:=kP.1 a;exact k D j g e
theorem dP.rel{w:World}{N:Nat→Prop}{D:DB}(h:dP w D):(∀g∈D.bl,¬ N g)→Rel N w bG (.sl (lm aK (D.kids.map DB.plain))) D.y:=by
 induction h with
 | leaf b y Q A c U=>intro _;subst U;exact .sl0 _ _ _
 | node b y a xs O P G X W =>
   intro I;obtain⟨Y,⟨V,C⟩|⟨g,s,t,K,Q,r,R,J,T,F⟩⟩:=O
   · have:a=[]:=ob C;subst this;show Rel N w bG (.sl []) y;rw[V];exact .sl0 _ _ _
   · have z:br (some y)=some g:=by rw[K];rfl
     have H:(lm aK (a.map DB.plain)).length=a.length:=by simp
     have q:∀(j:Nat) (e:c6),(lm aK (a.map DB.plain))[j]?=some e→∃D,a[j]?=some D∧e=aK D.plain:=fun j e d=>by
       rw[Dk,Dk]at d;cases L:a[j]? with
       | none=>rw[L]at d;cases d
       | some D=>rw[L]at d;injection d with d;exact⟨D,rfl,d.symm⟩
     have k:∀(j:Nat) (e:c6),(lm aK (a.map DB.plain))[j]?=some e→∀(i:Nat) (x:AV),e[i]?=some x→∃v,xs[j*59+i]?=some v∧Rel N w bG x v:=fun j e d i x l=>by
       obtain⟨D,u,rfl⟩:=q j e d;rw[DB.OJ]at l;have n:=mm u;have m:(aB ({ D.b with Kids:=[] }:ab)).length=59:=rfl;by_cases p:i=58
       · subst p;rw[acV (by rw[m];omega)]at l;injection l with l;subst l
         obtain⟨v,f,E⟩:=G j D u 58 (.vv D.y) (by unfold DB.cells;rw[acV (by rw[m];omega)]);refine⟨v,f,?_⟩;rw[agc E];exact W D n (fun M B=>I M (PB n B))
       · rw[ag1 (fun e=>p e.symm)]at l;obtain⟨v,f,E⟩:=G j D u i x (by unfold DB.cells;rw[ag1 (fun e=>p e.symm)];exact l);exact⟨v,f,E _ _ _⟩
     have o:=Rel.sl (N:=N) (w:=w) bG (lm aK (a.map DB.plain)) g 0 s 59 (fun j i=>(xs[j*59+i]?).getD (.bool true)) (fun e d=>by
         obtain⟨b,_,rfl⟩:=Do.1 d;exact fu b) (qv.1 r).1 (I g (DT z)) (fun j i=>by
         cases e:xs[j*59+i]? with
         | none=>rfl
         | some v=>exact P v (mm e)) (fun j e d i x l=>by
         obtain⟨v,f,_⟩:=k j e d i x l;rw[akN _ _ _ _ 48 (0,0) r];have:t.toList[j*59+i]?=some v:=by
           rw[←F]at f;rw[z3]at f;split at f
           · exact f
           · cases f
         simp only[f,RX];rw[←ahk,If];exact this) (fun j e d i x l=>by
         obtain⟨v,f,S⟩:=k j e d i x l;simp only[f,RX];exact S) (by rw[H];exact R)
     rw[H]at o;show Rel N w bG _ y;rw[K];exact o
theorem HZ{N:Nat→Prop}{w:World}{ι:Env}{l:c6}{c:AV}{y x:Value}{q:Nat}(h:Rel N w ι (.agg (l.set q c)) x)(g:q<l.length)(p:((l.set q (.bool true)).all tr)=true)(o:∀v,Rel N w ι c v→v=y)(s:y.oneCell'=true):ic (.agg (l.set q (.vv y))) x:=by
 cases h with
 | agg _ _ vs b m j =>
   intro N' w' ι';refine .agg _ _ vs (by simpa using b) m fun i a v d k=>?_;rw[akq]at b;by_cases f:i=q
   · subst f;rw[acV g]at d;injection d with d;subst d
     have:=o v (j i c v (acV g) k);subst this;exact .vv _ _ s
   · rw[ag1 (fun e=>f e.symm)]at d;have n:=j i a v (by rw[ag1 (fun e=>f e.symm)];exact d) k;have r:=n5.1 p a (mm (i:=i) (by rw[ag1 (fun e=>f e.symm)];exact d));exact CV r n
theorem Ew{N:Nat→Prop}{w:World}{ι:Env}{id:Nat}{y:Value}(a:ι id=some y):∀v,Rel N w ι (.ref id) v→v=y:=fun v h=>by
 cases h with
 | ref _ _ A n c h=>rw[a]at h;injection h with h;exact h.symm
theorem HU{N:Nat→Prop}{w:World}{D:DB}{i:Nat}{c:AV}{x:Value}(a:D.cells[i]?=some c)(h:Rel N w bG c x):ic c x:=by
 have d:(aB ({ D.b with Kids:=[] }:ab)).length=59:=rfl;by_cases b:i=58
 · subst b;unfold DB.cells at a;rw[acV (by rw[d];omega)]at a;injection a with a;subst a
   cases h with
   | vv _ _ f=>exact fun _ _ _=>.vv _ _ f
 · have g:tr c=true:=n5.1 (show ((List.set (aB ({ D.b with Kids:=[] }:ab)) 58 (.bool true)).all tr)=true from rfl) c (mm (i:=i) (by
     unfold DB.cells at a;rw[ag1 (fun e=>b e.symm)]at a⊢;exact a))
   exact fun _ _ _=>CV g h
def DB.fR(D:DB):c6:=List.set (aB ({ D.b with Kids:=[] }:ab)) 58 (match D.nd with|true=>.vv D.y|false=>.sl [])
theorem DB.Ue(D:DB):D.fR.length=59:=rfl
theorem I1{α β:Type}{P:Nat→α→β→Prop}:∀(l:List α) (k:Nat),(∀(j:Nat) (a:α),l[j]?=some a→∃b,P (k+j) a b)→∃m:List β,m.length=l.length∧∀(j:Nat) (a:α),l[j]?=some a→∃b,m[j]?=some b∧P (k+j) a b
 | [],k,_=>⟨[],rfl,fun j a h=>by simp at h⟩
 | a::r,k,h=>by
   obtain⟨b,o⟩:=h 0 a rfl;obtain⟨m,i,n⟩:=I1 (P:=P) r (k+1) (fun j d c=>by have:=h (j+1) d (by simpa using c);rw[show k+1+j=k+(j+1) by omega];exact this);refine⟨b::m,by simp[i],fun j d c=>?_⟩;cases j with
   | zero=>simp at c;subst c;exact⟨b,rfl,o⟩
   | succ j =>
     obtain⟨e,f,g⟩:=n j d (by simpa using c);exact⟨e,by simpa using f,by rw[show k+(j+1)=k+1+j by omega];exact g⟩
theorem Dn{α β γ:Type}{f:α→γ}{g:β→γ}:∀{l:List α} {m:List β},m.length=l.length→(∀(j:Nat) (a:α),l[j]?=some a→∃b,m[j]?=some b∧g b=f a)→m.map g=l.map f
 | [],[],_,_=>rfl
 | [],_::_,h,_=>by cases h
 | _::_,[],h,_=>by cases h
 | a::r,b::q,h,k=>by
   obtain⟨n,c,e⟩:=k 0 a rfl;simp at c;subst c;rw[th,th,e,Dn (by simpa using h) (fun j d i=>by simpa using k (j+1) d (by simpa using i))]
theorem pC:∀l:List DB,bls l=(l.map DB.bl).flatten
 | []=>rfl
 | d::r=>by simp[bls,pC r]
theorem aat{M:Nat→Prop}{b:aC}{w:World}{ι:Env}{s:AS}(h:HS M b w ι s){id:Nat}{n:List DB}(hr:look id s.r=some ⟨48,59,n.map DB.fR⟩)(g0:id<TG){y:Value}(U:ι id=some y)(W:ab)(S:∀D∈n,(D.nd=true→dP b.w D∧∀g∈D.bl,M g)∧(D.nd=false→D.kids=[]∧D.b.Kind≠1))(J:(bls n).Nodup):
   ∃Ds',iq Ds'=iq n∧bls Ds'=bls n∧dP w ⟨true,W,y,Ds'⟩∧(∀g∈bls Ds',M g)∧(⟨true,W,y,Ds'⟩:DB).bl.Nodup∧(∀g,br (some y)=some g→b.O g∧g<w.heap.size):=by
 obtain⟨v,xs,Q,e2,e3,e4,e5⟩:=h.arrs id _ hr (by rw[U];rfl);rw[U]at Q;injection Q with Q;subst Q
 have C:∀D:DB,D.nd=false→D.bl=[]:=fun D l=>by cases D;simp only at l;subst l;rfl
 have X:∀D∈n,∀g∈D.bl,M g:=fun D l g m=>by
   cases B:D.nd with
   | true=>exact((S D l).1 B).2 g m
   | false=>rw[C D B]at m;cases m
 have step:∀(j:Nat) (D:DB),n[j]?=some D→∃k:DB,k.plain=D.plain∧k.bl=D.bl∧dP w k∧∀(i:Nat) (c:AV),k.cells[i]?=some c→∃x,xs[(0+j)*59+i]?=some x∧ic c x:=fun j D l=>by
   have u:=mm l;have F:(aB ({ D.b with Kids:=[] }:ab)).length=59:=rfl;have get:∀(i:Nat) (c:AV),D.fR[i]?=some c→∃x,xs[j*59+i]?=some x∧Rel (NN M ι) w bG c x:=fun i c d=>by
     obtain⟨x,O,z⟩:=e5 j D.fR (by rw[Dk,l];rfl) i c d;exact⟨x,O,z.flat (by omega)⟩
   cases B:D.nd with
   | true =>
     have q:D.fR=D.cells:=by unfold DB.fR DB.cells;rw[B]
     refine⟨D,rfl,rfl,((S D u).1 B).1.b8 fun g m=>?_,fun i c d=>?_⟩
     · have G:=h.old g (((S D u).1 B).2 g m);exact h.below.block g G.1 G.2
     · obtain⟨x,O,z⟩:=get i c (by rw[q];exact d);exact⟨x,by rw[If];exact O,HU d z⟩
   | false =>
     obtain⟨r,t⟩:=(S D u).2 B;have q:D.fR=List.set (aB ({ D.b with Kids:=[] }:ab)) 58 (.sl []):=by unfold DB.fR;rw[B]
     obtain⟨x,O,z⟩:=get 58 (.sl []) (by rw[q,acV (by rw[F];omega)]);have f0:∃A c,x=.slice A 0 c:=by
       cases z with
       | sl0 _ A c=>exact⟨A,c,rfl⟩
       | sl _ _ b o c sz h0=>exact⟨_,_,rfl⟩
     obtain⟨A,c0,rfl⟩:=f0;obtain⟨nd,V,yy,kk⟩:=D;simp only at B r t;subst B;subst r;refine⟨⟨false,V,.slice A 0 c0,[]⟩,rfl,rfl,.leaf V _ t A c0 rfl,fun i c d=>?_⟩;rw[If];by_cases K:i=58
     · subst K;unfold DB.cells at d;rw[acV (by rw[F];omega)]at d;injection d with d;subst d
       exact⟨_,O,fun _ _ _=>.vv _ _ rfl⟩
     · have Z:(DB.fR ⟨false,V,yy,[]⟩)[i]?=some c:=by
         unfold DB.cells at d;unfold DB.fR;rw[ag1 (fun e=>K e.symm)]at d⊢;exact d
       obtain⟨x,e0,N⟩:=get i c Z;exact⟨x,e0,HU d N⟩
 obtain⟨Ds',T,H⟩:=I1 (P:=fun j (D k:DB)=>k.plain=D.plain∧k.bl=D.bl∧dP w k∧∀(i:Nat) (c:AV),k.cells[i]?=some c→∃x,xs[j*59+i]?=some x∧ic c x) n 0 step;have d0:iq Ds'=iq n:=by
   rw[mK,mK];exact Dn T fun j a Y=>by obtain⟨b,E,R,_⟩:=H j a Y;exact⟨b,E,R⟩
 have I:bls Ds'=bls n:=by
   rw[pC,pC,Dn (f:=DB.bl) (g:=DB.bl) T fun j a Y=>by obtain⟨b,E,_,R,_⟩:=H j a Y;exact⟨b,E,R⟩]
 have p:∀(j:Nat) (k:DB),Ds'[j]?=some k→dP w k∧∀(i:Nat) (c:AV),k.cells[i]?=some c→∃x,xs[j*59+i]?=some x∧ic c x:=fun j k L=>by
   have b0:j<n.length:=by rw[←T];exact(jt.1 L).1
   obtain⟨b,E,R,g3,g4,g5⟩:=H j _ (kb b0);rw[L]at E;injection E with E;subst E
   exact⟨g4,fun i c d=>by have:=g5 i c d;rw[If]at this;exact this⟩
 have hM:∀g∈bls Ds',M g:=fun g m=>by
   rw[I]at m;obtain⟨D,l,a0⟩:=kP.1 m;exact X D l g a0
 refine⟨Ds',d0,I,.node W y Ds' xs (by rw[T];simpa using e2) e4 (fun j D l i c d=>(p j D l).2 i c d) (fun D l=>?_),hM,?_,fun g m=>h.own id g (by rw[U];exact m)⟩
 · obtain⟨j,hj⟩:=akI l;exact(p j D hj).1
 · simp only[DB.bl];rw[←I]at J;cases hb:br (some y) with
   | none=>exact J
   | some g =>
     refine List.nodup_cons.2 ⟨fun m=>?_,J⟩;exact h.sep (hM g m) (by rw[U];exact hb)
noncomputable section
variable(M:Nat→Prop)(f:World)(o:aC)(r:ab×Int)(d:g7)(v2:Int)(u:Bool)(j:Int)(t:List DB)(z:Bool)(B:Nat)(A:Int→d3→Option f6)
abbrev He:Cx:=⟨bb,95,M,o⟩
def QT(r:ab×Int)(w w':World)(v:AV):Prop:=∃D:DB,D.nd=true∧D.plain=r.1∧v=.tup [.agg D.cells,iI r.2]∧dP w' D∧(∀g∈D.bl,w.heap.size≤g∧g<w'.heap.size)∧D.bl.Nodup
abbrev qT:=bodyPost bb Tryz.f41 (fun e w'=>∃x v,e=.returned x∧Below f.heap.size f w'∧QT r f w' v∧ic v x)
abbrev FP(a:dt)(s:AS):=VE (He M o) (qT f r) a .normal s
structure FI(M:Nat→Prop)(f:World)(o:aC)(Ds:List DB):Prop where
 gr:fD (fun _=>False) (ng f) o
 ok:∀D∈Ds,(D.nd=true→dP o.w D∧∀g∈D.bl,M g∧f.heap.size≤g)∧(D.nd=false→D.kids=[]∧D.b.Kind≠1)
 nodup:(bls Ds).Nodup
theorem FI.bl{M:Nat→Prop}{f:World}{o:aC}{d:List DB}(h:FI M f o d):∀g∈bls d,M g∧f.heap.size≤g:=fun g i=>by
 obtain⟨D,e,a⟩:=kP.1 i;cases c:D.nd with
 | true=>exact((h.ok D e).1 c).2 g a
 | false=>obtain⟨j,b,y,k⟩:=D;simp only at c;subst c;cases a
theorem FI.add{M:Nat→Prop}{f w:World}{o m:aC}{s:List DB}(h:FI M f o s)(t:∀k,M k→k<o.w.heap.size∧¬ o.G k)(r:o.w.heap.size≤w.heap.size)(u:fD (fun _=>False) o m){D:DB}(n:D.nd=true)(q:dP m.w D)(l:∀g∈D.bl,w.heap.size≤g∧g<m.w.heap.size)(p:D.bl.Nodup):FI (fun c=>M c∨c∈D.bl) f m (s++[D]):=by
 refine⟨h.gr.trans u,fun j d=>?_,?_⟩
 · rcases nw.1 d with d|d
   · refine⟨fun i=>⟨((h.ok j d).1 i).1.b8 fun g e=>?_,fun g e=>⟨.inl (((h.ok j d).1 i).2 g e).1,(((h.ok j d).1 i).2 g e).2⟩⟩,(h.ok j d).2⟩;have:=t g (((h.ok j d).1 i).2 g e).1;exact u.block g this.1 this.2 (fun h=>h)
   · rw[aix.1 d];exact⟨fun _=>⟨q,fun g e=>⟨.inr e,aaN h.gr.size (aaN r (l g e).1)⟩⟩,fun i=>by rw[n]at i;cases i⟩
 · rw[Ko];refine akY.2 ⟨h.nodup,by simpa[bls]using p,fun a v b x=>?_⟩;have y:=t a (h.bl a v).1;have z:=l b (by simpa[bls]using x);omega
theorem FI.txt{M:Nat→Prop}{f:World}{o:aC}{c:List DB}(h:FI M f o c){b:ab}{y:Value}(e:b.Kind≠1):FI M f o (c++[⟨false,b,y,[]⟩]):=by
 refine⟨h.gr,fun d a=>?_,?_⟩
 · rcases nw.1 a with a|a
   · exact h.ok d a
   · rw[aix.1 a];exact⟨fun g=>(by cases g),fun _=>⟨rfl,e⟩⟩
 · rw[Ko];have:bls [(⟨false,b,y,[]⟩:DB)]=[]:=rfl;rw[this,List.append_nil];exact h.nodup
theorem aeT{M:Nat→Prop}{f w:World}{o:aC}{ι:Env}{s:AS}{B:List DB}{b:ab}{n:Int}{x:Value}(c:FI M f o B)(m:HS M o w ι s)(Y:look 72 s.r=some ⟨48,59,B.map DB.fR⟩)(Z:Rel (NN M ι) w ι (.tup [.agg (List.set (aB ({ b with Kids:=[] }:ab)) 58 (.ref 72)),iI n]) x):
   ∃v,Below f.heap.size f w∧QT ({ b with Kids:=B.map DB.plain },n) f w v∧ic v x:=by
 cases Z with
 | tup _ _ vs t z =>
   match vs,t with
   | [p,q],_ =>
     have L:=z 0 _ p rfl rfl;have A:=z 1 _ q rfl rfl;have r:∃y,ι 72=some y∧y.oneCell'=true:=by
       cases L with
       | agg _ _ us W E I =>
         have u:58<us.length:=by rw[←W];show 58<59;omega
         have e:=I 58 (.ref 72) _ (acV (show 58<59 by omega)) (kb u);have U:=E _ (q6 u);obtain⟨y,r⟩:=eO 72 _ _ _ _ e;exact⟨y,r,by rw[←Ew r _ e];exact U⟩
     obtain⟨y,r,J⟩:=r;obtain⟨Ds',E,Q,R,h4,S,T⟩:=aat m Y (by decide) r ({ b with Kids:=[] }:ab) (fun D F=>⟨fun A=>⟨((c.ok D F).1 A).1,fun g d=>(((c.ok D F).1 A).2 g d).1⟩,(c.ok D F).2⟩) c.nodup;refine⟨.tup [.agg (DB.cells ⟨true,{ b with Kids:=[] },y,Ds'⟩),iI n],⟨m.below.os.trans c.gr.os,m.below.tape.trans c.gr.tape,m.below.output.trans c.gr.output,aaN c.gr.size m.below.size,fun k H=>?_⟩,⟨⟨true,{ b with Kids:=[] },y,Ds'⟩,rfl,?_,rfl,R,fun g d=>?_,S⟩,fun N w2 ι2=>.tup _ _ [p,q] rfl fun i a v j l=>?_⟩
     · have X:¬ o.G k:=fun V=>by
         rcases c.gr.O k (.inr V)with e|e
         · exact absurd H (akf.2 e)
         · exact e
       exact(m.below.block k (wl H c.gr.size) X).trans (c.gr.block k H (fun h=>h) (fun h=>h))
     · show({ b with Kids:=iq Ds' }:ab)=_;rw[E,mK]
     · simp only[DB.bl,nw]at d;rcases d with d|d
       · cases G:br (some y) with
         | none=>rw[G]at d;cases d
         | some K =>
           rw[G]at d;rw[aix.1 d];obtain⟨O,P⟩:=T K G;rcases c.gr.O K O with C|C
           · exact⟨C,P⟩
           · exact C.elim
       · rw[Q]at d;have e:=c.bl g d;exact⟨e.2,wl (m.old g e.1).1 m.below.size⟩
     · match i,j,l with
       | 0,j,l =>
         injection j with j;injection l with l;subst j;subst l
         exact HZ L (by show 58<59;omega) rfl (Ew r) J N w2 ι2
       | 1,j,l =>
         injection j with j;injection l with l;subst j;subst l
         exact CV rfl A
abbrev qH(n:Nat):aq:=.c (cat Tryz.f41 (pn n))
abbrev HK:dt:=[.b 0,qH 127]
abbrev G0:dt:=kl (He M o) (qT f r) HK (cat Tryz.f41 (pn 504)) B::HK
def afh:AS:=⟨[(0,.sl (lm aI d)),(1,iI j),(4,.ptr 4 0),(6,.ptr 6 0),(7,.int .u8 ((gD d v2).Depth)),(8,.bool u),(60,.bool z)],[(4,List.set (aB c9) 58 (.nils)),(6,List.set (aB ({ c9 with Kind:=1,Node:=(aa (10+v2)),Style:=(gD d v2).Style }:ab)) 58 (.ref 72))],[(72,⟨48,59,lm DB.fR t⟩)],[4,6,72]⟩
def RL:AS:=⟨[(0,.sl (lm aI d)),(1,iI j),(4,.ptr 4 0),(6,.ptr 6 0),(7,.int .u8 ((gD d v2).Depth)),(8,.bool u)],[(4,List.set (aB c9) 58 (.nils)),(6,List.set (aB ({ c9 with Kind:=1,Node:=(aa (10+v2)),Style:=(gD d v2).Style }:ab)) 58 (.ref 72))],[(72,⟨48,59,lm DB.fR t⟩)],[4,6,72]⟩
def agL:AS:=⟨[(0,.sl (lm aI d)),(1,iI (aa (v2+1))),(4,.ptr 4 0),(6,.ptr 6 0),(7,.int .u8 ((gD d v2).Depth)),(8,.bool u)],[(4,List.set (aB c9) 58 (.nils)),(6,List.set (aB ({ c9 with Kind:=1,Node:=(aa (10+v2)),Style:=(gD d v2).Style }:ab)) 58 (.nils))],[],[4,6]⟩
abbrev G9:Prop:=∀{M:Nat→Prop} {o:aC} {j:Int} {t:(List DB)},FI M f o t→A j (t.map DB.plain)=some r→LP (He M o) (qT f r) HK (cat Tryz.f41 (pn 504)) B (RL d v2 u j t)
def KD(K:Kn):Prop:=∀{l:g7} {a:Int} {r:ab×Int},K.kx l a=some r→Ad bb 41 [.sl (lm aI l),iI a] (QT r)
variable{M f o r d v2 u j t z B A}{K:Kn}{n:Nat}
theorem Pu(U:KD K)(C:G9 f r d v2 u B A)(H:FI M f o t)(h:nn K n d v2 u j (t.map DB.plain) A z=some r):FP M f o r (qH 2017::qH 1009::G0 M f o r B) (afh d v2 u j t z):=by
 unfold nn at h;obtain⟨a,h⟩|⟨a,h⟩:=am h
 ·refine ah 60 a (bX (ks':=qH 8073::qH 4037 :: .b 1::G0 M f o r B) 6 ?_);obtain⟨b,h⟩|⟨b,h⟩:=am h
  ·refine ah 61 b (ax 4 5 2 (aj 2 ?_));obtain⟨Q,G,h⟩:=bind_some h;refine LC (U G) (fun v w b2 W V P hG J=>?_);obtain⟨⟨nd,c,i,e⟩,E,O,Y,N,D,L⟩:=W;simp only at E;subst E;subst Y;refine⟨fun g=>g∈(⟨true,c,i,e⟩:DB).bl,D,?_⟩;have I:=H.add V P J rfl N D L;refine ac (ax 2 3 1 (aj 3 (au (gu DB.fR ([⟨true,c,i,e⟩]:List DB) (new:=[DB.cells ⟨true,c,i,e⟩]) rfl) ?_)));obtain⟨p,h⟩:=aD h;rw[nx]at p;refine au (cw 72 72 48 59 DB.fR (rfl) (DB.Ue) (M:=[⟨true,c,i,e⟩]) p) (ac ?_);have F:A Q.2 ((t++[(⟨true,c,i,e⟩:DB)]).map DB.plain)=some r:=by rw[IT,th,By,O];exact h
   exact ag 5 (bq (C I F))
  ·refine ah 61 b (fV 2 3 3 (bJ [0,1,4,6,7,8] [4,6] [72] ?_));obtain⟨q,h⟩:=aD h;obtain⟨s,h⟩:=aD h;obtain⟨y,h⟩:=aD h;rw[nx]at y;have F:A (aa (j+1)) ((t++[(⟨false,({ c9 with Kind:=3,Style:=(gD d j).Style,Text:=(gD d j).Text }:ab),.nilIface,[]⟩:DB)]).map DB.plain)=some r:=by rw[IT];exact h
   exact bN 2 (nu 75 [.ptr 6 58,.ref 72,.sl (lm aI d),iI j,.cptr (aI (gD d j)),.cptr (List.drop 5 (aI (gD d j))),.agg (aH ((gD d j).Style)),.sl (lm aI d),iI j,.cptr (aI (gD d j)),.cptr (List.drop 2 (aI (gD d j))),.str ((gD d j).Text),.agg (List.set (aB ({ c9 with Kind:=3,Style:=(gD d j).Style,Text:=(gD d j).Text }:ab)) 58 (.nils)),.sl (lm DB.fR [(⟨false,({ c9 with Kind:=3,Style:=(gD d j).Style,Text:=(gD d j).Text }:ab),.nilIface,[]⟩:DB)])]++nu 90 [.ptr 6 58]) [] [] [fS 89 72 ⟨48,59,lm DB.fR (t++[(⟨false,({ c9 with Kind:=3,Style:=(gD d j).Style,Text:=(gD d j).Text }:ab),.nilIface,[]⟩:DB)])⟩,cd bb 95 Tryz.f41 (pn 8074) 16] (av [.v 0 2,.v 0 1,.v 0 2,.v 0 2] (ai (fh (lo:=0) (k:=2) (da ⟨(by kernel_rfl),(dc (bB aI aI q (dB) aT) (by kernel_rfl))⟩ (da ⟨(by kernel_rfl),(dc (bB aI aI q (dB) aT) (by kernel_rfl))⟩ ft))) (av [.v 0 2,.v 0 2,.v 0 2,.v 0 2] (ai (fh (lo:=0) (k:=2) (da ⟨(by kernel_rfl),(dc (bB aI aI s (dB) aT) (by kernel_rfl))⟩ (da ⟨(by kernel_rfl),(dc (bB aI aI s (dB) aT) (by kernel_rfl))⟩ ft))) (av [.v 0 2,.v 0 2,.v 0 2] (bh (gu DB.fR ([⟨false,({ c9 with Kind:=3,Style:=(gD d j).Style,Text:=(gD d j).Text }:ab),.nilIface,[]⟩]:List DB) (new:=[DB.fR ⟨false,({ c9 with Kind:=3,Style:=(gD d j).Style,Text:=(gD d j).Text }:ab),.nilIface,[]⟩]) rfl) (ai (dd (m:=0) (cw 89 72 48 59 DB.fR (rfl) (DB.Ue) (M:=[(⟨false,({ c9 with Kind:=3,Style:=(gD d j).Style,Text:=(gD d j).Text }:ab),.nilIface,[]⟩:DB)]) y)) (av [.v 1 1] (ai (cb 1) bL))))))))) (ag 2 (bq (C (H.txt (by show(3:Int)≠1;omega)) F)))
 ·refine ah 60 a (aN 8 ?_);cases h;refine tG (l:=[.agg (List.set (aB ({ (⟨1,(aa (10+v2)),(gD d v2).Style,⟨#[]⟩,0,0,[]⟩:ab)with Kids:=[] }:ab)) 58 (.ref 72)),iI j]) (by kernel_rfl) (fun w ι x X Z=>?_);obtain⟨v,R,S,T⟩:=aeT H X (by kernel_rfl) Z;exact⟨x,v,rfl,R,S,T⟩
theorem ai8(e:KD K)(b:G9 f r d v2 u B A)(g:FI M f o t)(h:oe K n d v2 u A j (t.map DB.plain)=some r):FP M f o r (qH 504::G0 M f o r B) (RL d v2 u j t):=by
 unfold oe at h;refine cf 4 5 3 2 (aj 2 (au (bu aI d) (aQ 5 2 ?_)));obtain⟨a,h⟩|⟨a,h⟩:=am h
 ·refine aF 52 a (aQ 7 2 ?_);obtain⟨c,h⟩:=aD h;exact au (bB aI aI c (dB) aT) (ac (ag 0 (Pu e b g h)))
 ·exact aF 52 a (ac (ag 0 (Pu e b g h)))
theorem agS(b:KD K)(m:Nat):G9 f r d v2 u m (lW K n d v2 u m):=by
 induction m with
 | zero=>intro M o j t a h;cases h
 | succ m c=>intro M o j t a h;have h:oe K n d v2 u (lW K n d v2 u m) j (t.map DB.plain)=some r:=h;exact bn (ai8 b c a h)
theorem E3(a:KD K)(b:FI M f o [])(h:oG K n d v2 u=some r):FP M f o r [qH 63] (agL d v2 u):=by
 unfold oG at h;exact gJ 4 0 3 2 (bJ [0,1,4,6,7,8] [4,6] [] (yB 72 6 58 48 59 (ag 0 (ce (p:=pn 252) n (agS a n b h)))))
theorem ahn(e:KD K)(h:nZ K n d v2=some r):Ad bb 41 [.sl (lm aI d),iI v2] (QT r):=by
 refine Zq (c:=cat Tryz.f41 (pn 1)) Tryz.func41 (by kernel_rfl) _ Tryz.ntmps41 (lp (by kernel_rfl)) fun M f=>?_;have g:FI M f (ng f) []:=⟨.refl _ _,fun D m=>(by cases m),List.nodup_nil⟩;refine bm ⟨[(0,.sl (lm aI d)),(1,iI v2)],[],[],[]⟩ ?_;unfold nZ at h;refine ax 6 7 3 (aj 4 ?_);obtain⟨i,h⟩:=aD h;refine au (bB aI aI i (dB) aT) (ac (ax 2 3 1 (aj 2 ?_)));obtain⟨j,h⟩:=aD h;refine au (bB aI aI j (dB) aT) (ac (ax 6 7 3 (aj 2 (au (bu aI d) (aQ 5 2 ?_)))));obtain⟨a,h⟩|⟨a,h⟩:=am h
 ·refine aF 30 a (aQ 7 2 ?_);obtain⟨k,h⟩:=aD h;refine au (bB aI aI k (dB) aT) (aQ 14 6 ?_);obtain⟨b,h⟩|⟨b,h⟩:=am h
  ·refine aF 39 b (aQ 16 2 ?_);obtain⟨l,h⟩:=aD h;exact au (bB aI aI l (dB) aT) (ac (ag 0 (E3 e g h)))
  ·exact aF 39 b (ac (ag 0 (E3 e g h)))
 ·exact aF 30 a (ac (ag 0 (E3 e g h)))
theorem Vv:∀(m:Nat) {l:g7} {a:Int} {r:ab×Int},kF K n m l a=some r→Ad bb 41 [.sl (lm aI l),iI a] (QT r)
 | 0,_,_,_,h=>by cases h
 | m+1,l,a,r,h=>ahn (K:={ K with kx:=kF K n m }) (fun h=>Vv m h) h
end
theorem N8{f:ab→Option ab}:∀{l m:d3},kO f l=some m→m.length=l.length∧∀(j:Nat) (k:ab),l[j]?=some k→∃a,m[j]?=some a∧(if (k.Kind == 1)=true then f k else some k)=some a
 | [],m,h=>by injection h with h;subst h;exact⟨rfl,fun j k i=>by simp at i⟩
 | k::r,m,h=>by
   obtain⟨a,e,h⟩:=bind_some h;obtain⟨n,g,h⟩:=bind_some h;injection h with h;subst h
   obtain⟨c,d⟩:=N8 g;refine⟨by simp[c],fun j q b=>?_⟩;cases j with
   | zero=>simp at b;subst b;exact⟨a,rfl,e⟩
   | succ j=>simpa using d j q (by simpa using b)
theorem Nu:∀{l:List DB} {i j:Nat} {a b:DB} {g:Nat},(bls l).Nodup→i≠j→l[i]?=some a→l[j]?=some b→g∈a.bl→g∈b.bl→False
 | [],i,j,a,b,g,_,_,h,_,_,_=>by simp at h
 | d::r,i,j,a,b,g,q,f,c,k,m,n=>by
   have o:(d.bl++bls r).Nodup:=q;obtain⟨t,s,p⟩:=akY.1 o;cases i with
   | zero =>
     cases j with
     | zero=>exact f rfl
     | succ j =>
       simp at c k;subst c;exact p g m g (kP.2 ⟨b,mm k,n⟩) rfl
   | succ i =>
     cases j with
     | zero =>
       simp at c k;subst k;exact p g n g (kP.2 ⟨a,mm c,m⟩) rfl
     | succ j=>exact Nu (i:=i) (j:=j) s (fun e=>f (by omega)) (by simpa using c) (by simpa using k) m n
structure DI(M:Nat→Prop)(w0:World)(y:Value)(b':aC)(Ds X:List DB):Prop where
 gr:fD (fun g=>g∈bls Ds) (mY w0 700 y) b'
 ok:∀D∈X,dP b'.w D
 sub:∀g∈bls Ds,M g
 bl:X.map DB.bl=Ds.map DB.bl
theorem DI.bls{M:Nat→Prop}{c:World}{y:Value}{b:aC}{a X:List DB}(h:DI M c y b a X):bls X=bls a:=by rw[pC,pC,h.bl]
theorem DI.put{M:Nat→Prop}{w:World}{y:Value}{l n:aC}{f X:List DB}(h:DI M w y l f X)(z:(Go.Proofs.YtocgkfoifehcbaaGreat.bls f).Nodup){i:Nat}{D m:DB}(c:X[i]?=some D)(x:∀k,M k→k<l.w.heap.size∧¬ l.G k)(v:fD (fun g=>g∈D.bl) l n)(t:dP n.w m)(p:m.bl=D.bl):DI M w y n f (X.set i m):=by
 have d:∀g∈D.bl,g∈Go.Proofs.YtocgkfoifehcbaaGreat.bls f:=fun g q=>by rw[←h.bls];exact kP.2 ⟨D,mm c,q⟩
 refine⟨h.gr.trans (v.mono d),fun u o=>?_,h.sub,?_⟩
 · obtain⟨j,a⟩:=akI o;by_cases e:i=j
   · subst e;rw[acV (jt.1 c).1]at a;injection a with a;subst a;exact t
   · rw[ag1 e]at a;refine (h.ok u (mm a)).b8 fun g b=>?_;have r:g∈Go.Proofs.YtocgkfoifehcbaaGreat.bls X:=kP.2 ⟨u,mm a,b⟩;have:=x g (h.sub g (by rw[←h.bls];exact r));exact v.block g this.1 this.2 (fun s=>Nu (by rw[h.bls];exact z) e c a s b)
 · rw [←h.bl,List.map_set,p];exact akz fun k=>by
     rw[akp];split
     · rename_i e;subst e;have:=(jt.1 c).1;rw[nx,ll this,Dk,c];rfl
     · rfl
theorem Bi{M:Nat→Prop}{f w:World}{o:aC}{ι:Env}{s:AS}{n X:List DB}{b:ab}{y x:Value}(a:DI M f y o n X)(d:HS M o w ι s)(L:look 700 s.r=some ⟨48,59,X.map DB.cells⟩)(C:y.oneCell'=true)(A:Rel (NN M ι) w ι (.agg (List.set (aB ({ b with Kids:=[] }:ab)) 58 (.ref 700))) x):
   w.os=f.os∧w.tape=f.tape∧w.output=f.output∧f.heap.size≤w.heap.size∧(∀k,k<f.heap.size→¬ k∈(⟨true,{ b with Kids:=[] },y,n⟩:DB).bl→w.heap[k]?=f.heap[k]?)∧dP w ⟨true,{ b with Kids:=[] },y,X⟩∧ic (.agg (DB.cells ⟨true,{ b with Kids:=[] },y,X⟩)) x:=by
 have B:ι 700=some y:=(d.pin 700 y (by rw[a.gr.pv];simp[mY])).1;refine⟨d.below.os.trans a.gr.os,d.below.tape.trans a.gr.tape,d.below.output.trans a.gr.output,aaN a.gr.size d.below.size,fun k r F=>?_,?_,?_⟩
 · have h:¬ (mY f 700 y).G k:=fun q=>F (DT q);have t:¬ k∈bls n:=fun J=>F (by simp only [DB.bl,nw]; exact .inr J);have u:¬ o.G k:=fun q=>by
     rcases a.gr.O k (.inr q)with p|p
     · exact absurd r (akf.2 p)
     · exact h p
   exact(d.below.block k (wl r a.gr.size) u).trans (a.gr.block k r h t)
 · obtain⟨v,xs,l,G,N,H,I⟩:=d.arrs 700 _ L (by rw[B];rfl);rw[B]at l;injection l with l;subst l
   refine .node _ y X xs (by simpa using G) H (fun j D m i c E=>?_) (fun D m=>(a.ok D m).b8 fun g K=>?_)
   · obtain⟨x,A,z⟩:=I j D.cells (by rw[Dk,m];rfl) i c E;exact⟨x,A,HU E (z.flat (by decide))⟩
   · have e:=d.old g (a.sub g (by rw[←a.bls];exact kP.2 ⟨D,m,K⟩));exact d.below.block g e.1 e.2
 · exact HZ A (by show 58<59;omega) rfl (Ew B) C
noncomputable section
variable(M:Nat→Prop)(c:World)(d:aC)(l:g7)(b:ab)(y:Value)(a Ds' X:List DB)(v5:Bool)(v6:Int)(f:DB)(o:Nat)
abbrev Gw:Cx:=⟨bb,52,M,d⟩
abbrev qR:=bodyPost bb Tryz.f42 (fun e w'=>∃x,e=.returned x∧w'.os=c.os∧w'.tape=c.tape∧w'.output=c.output∧c.heap.size≤w'.heap.size∧(∀k,k<c.heap.size→¬ k∈(⟨true,{ b with Kids:=[] },y,a⟩:DB).bl→w'.heap[k]?=c.heap[k]?)∧dP w' f∧ic (.agg (DB.cells f)) x)
abbrev VgR(e:dt)(s:AS):=VE (Gw M d) (qR c b y a f) e .normal s
abbrev iQ(n:Nat):aq:=.c (cat Tryz.f42 (pn n))
abbrev RR:dt:=[.b 0,iQ 15]
abbrev TR:dt:=kl (Gw M d) (qR c b y a f) RR (cat Tryz.f42 (pn 116)) o::RR
def sR:AS:=⟨[(1,.sl (lm aI l)),(2,.ptr 2 0),(4,.ptr 4 0),(5,.bool v5),(6,iI v6)],[(2,List.set (aB ({ b with Kids:=[] }:ab)) 58 (.ref 700)),(4,List.set (aB c9) 58 (.nils))],[(700,⟨48,59,lm DB.cells X⟩)],[2,4,700,1000700,700]⟩
variable{M c d l b y a Ds' X v5 v6 f o}
theorem VC(s:DI M c y d a X)(e:y.oneCell'=true){z:ab}(t:f=⟨true,{ z with Kids:=[] },y,X⟩)(h:jI l b [] v5=some z):VgR M c d b y a f [iQ 15] (sR l b X v5 v6):=by
 refine bX (ks':=[iQ 30,iQ 31]) 1 (aj 4 (ac ?_));cases v5 with
 | false =>
   unfold jI at h;have p:=akV h;subst p;subst t;refine aN 8 ?_;refine tG (l:=[.agg (List.set (aB ({ b with Kids:=[] }:ab)) 58 (.ref 700))]) (by kernel_rfl) (fun w ι x q r=>?_);obtain⟨g,i,j,k,m,n,o⟩:=Bi s q (by kernel_rfl) e r;exact⟨x,rfl,g,i,j,k,m,n,o⟩
 | true =>
   unfold jI at h;refine bX (ks':=[iQ 124,iQ 125,iQ 63]) 2 (aj 4 ?_);obtain⟨u,h⟩|⟨u,h⟩:=am h
   · refine aF 39 u ?_;refine aQ 8 4 ?_;obtain⟨A,h⟩:=aD h;refine au (bB aI aI A (dB) aT) (aQ 13 4 ?_);obtain⟨v,h⟩|⟨v,h⟩:=am h
     · refine aF 48 v ?_;refine ac ?_;have p:=akV h;subst p;subst t;refine aN 5 ?_;refine tG (l:=[.agg (List.set (aB ({ ({ b with Kind:=6 }:ab)with Kids:=[] }:ab)) 58 (.ref 700))]) (by kernel_rfl) (fun w ι x q r=>?_);obtain⟨g,i,j,k,m,n,o⟩:=Bi (b:={ b with Kind:=6 }) s q (by kernel_rfl) e r;exact⟨x,rfl,g,i,j,k,m,n,o⟩
     · refine aF 48 v ?_;refine ac ?_;have p:=akV h;subst p;subst t;refine aN 5 ?_;refine tG (l:=[.agg (List.set (aB ({ b with Kids:=[] }:ab)) 58 (.ref 700))]) (by kernel_rfl) (fun w ι x q r=>?_);obtain⟨g,i,j,k,m,n,o⟩:=Bi s q (by kernel_rfl) e r;exact⟨x,rfl,g,i,j,k,m,n,o⟩
   · refine aF 39 u ?_;refine ac ?_;have p:=akV h;subst p;subst t;refine aN 5 ?_;refine tG (l:=[.agg (List.set (aB ({ b with Kids:=[] }:ab)) 58 (.ref 700))]) (by kernel_rfl) (fun w ι x q r=>?_);obtain⟨g,i,j,k,m,n,o⟩:=Bi s q (by kernel_rfl) e r;exact⟨x,rfl,g,i,j,k,m,n,o⟩
def Cm(l:g7)(D a:DB):Prop:=a.bl=D.bl∧((D.b.Kind == 1)=true→qZ bb 42 [.agg D.cells,.sl (lm aI l)] (fun g=>g∈D.bl) (fun w=>dP w D) (.agg a.cells) (fun w=>dP w a))∧((D.b.Kind == 1)=false→a=D)
structure Mx(a Ds' X:List DB)(i:Nat)(v5:Bool):Prop where
 len:X.length=a.length
 le:i≤a.length
 lo:∀j,j<i→X[j]?=Ds'[j]?
 hi:∀j,i≤j→X[j]?=a[j]?
 blocks:v5=(a.take i).any fun D=>D.b.Kind == 1
theorem ahr(hn:(bls a).Nodup)(U:Ds'.length=a.length)(P:∀(j:Nat) (D t:DB),a[j]?=some D→Ds'[j]?=some t→Cm l D t)(F:a.length≤maxLen)(R:y.oneCell'=true){S:ab}(hz:f=⟨true,{ S with Kids:=[] },y,Ds'⟩)(h:jI l b [] (a.any fun D=>D.b.Kind == 1)=some S):
   ∀(m:Nat) {M:Nat→Prop} {d:aC} {X:List DB} {i:Nat} {v5:Bool} {v6:Int},v6=(i:Int)→Mx a Ds' X i v5→DI M c y d a X→a.length<m+i→LP (Gw M d) (qR c b y a f) RR (cat Tryz.f42 (pn 116)) m (sR l b X v5 v6):=by
 intro m
 induction m with
 | zero=>intro M d X i v5 v6 _ n _ hm;have:=n.le;omega
 | succ m V =>
   intro M d X i v5 v6 T n B hm;refine bn (bX (ks':=iQ 464::iQ 465::iQ 233::TR M c d b y a f m) 2 (aj 3 (au (bu DB.cells X) (aQ 5 1 ?_))));by_cases q:i<a.length
   · have u:decide (v6<(X.length:Int))=true:=aj6 (by rw [n.len]; omega);refine aF 12 u (ac ?_);have r:=n.hi i (lc _);have p:a[i]?=some (a[i]'q):=kb q;have o:Ds'[i]?=some (Ds'[i]'(by omega)):=kb _;generalize a[i]'q=D at p;generalize Ds'[i]'(by omega:i<Ds'.length)=t at o;rw [p] at r;have s:X.getD v6.toNat default=D:=by
       rw[T,tl,Int.toNat_natCast,r];rfl
     have k:aM v6 X.length=true:=by
       unfold aM;rw[iO];exact⟨aj6 (by omega),aj6 (by rw[n.len];omega)⟩
     have I:aa (v6+1)=((i+1:Nat):Int):=by
       rw[T];unfold maxLen at F;have:(0:Int)≤(i:Int)+1∧(i:Int)+1<9223372036854775808:=by omega
       unfold aa;rw[akE];omega
     obtain⟨t1,t2,t3⟩:=P i D t p o;refine bX (ks':=iQ 1864::iQ 1865 :: .b 1::iQ 467::TR M c d b y a f m) 5 (aj 3 (au (cp 700 59 DB.cells k) (aQ 5 1 (au (bI 3 0 DB.cells DB.cells (bD k).2 aT) (ac ?_)))));cases A:(D.b.Kind == 1) with
     | true =>
       have v:((X.getD v6.toNat default).b.Kind == 1)=true:=by rw[s];exact A
       refine ah 21 v (bX (ks':=iQ 7461 :: .b 1::iQ 467::TR M c d b y a f m) 3 (bJ [1,2,4,5,6] [2,4] [700] ?_));have H:qZ bb 42 [.agg (X.getD v6.toNat default).cells,.sl (lm aI l)] (fun g=>g∈D.bl) (fun w=>dP w D) (.agg t.cells) (fun w=>dP w t):=by rw[s];exact t2 A
       have G:∀g∈D.bl,g∈bls a:=fun g C=>kP.2 ⟨D,mm p,C⟩;refine WZ 9 31 [(22,.ptr 2 58),(23,.ref 700),(24,iI v6),(25,.ptr 2 58),(26,.ref 700),(27,iI v6),(28,.eptr 700 59 v6.toNat 0),(29,.agg (X.getD v6.toNat default).cells),(30,.sl (lm aI l))] H (fun g C=>B.sub g (G g C))
         (fun w _ I=>(B.ok D (mm r)).b8 I)
         (av (vz 6) (bh (cp 700 59 DB.cells (L:=X) (i:=v6) k) (bh (bI 48 0 DB.cells DB.cells (bD k).2 aT) (av [.v 0 1] AX))))
         (av (vz 6) (bh (cp 700 59 DB.cells (L:=X) (i:=v6) k) (bh (bI 48 0 DB.cells DB.cells (bD k).2 aT) (av [.v 0 1] AX))))
         (fun W C Z Y=>?_)
       have K:=B.put hn r Y C Z t1;refine au (cp 700 59 DB.cells k) (au (dz 700 48 59 0 DB.cells DB.cells t (bD k).2 aT) (ac ?_));have x:Mx a Ds' (List.set X v6.toNat t) (i+1) true:=by
         have z:v6.toNat=i:=by omega
         rw[z];refine⟨by rw[akq];exact n.len,q,fun j E=>?_,fun j E=>?_,?_⟩
         · rw[akp];split
           · rename_i e;subst e;rw[ll (by rw[n.len];exact q),o]
           · exact n.lo j (by omega)
         · rw[ag1 (by omega)];exact n.hi j (by omega)
         · symm;rw[ahD];exact⟨D,mm (i:=i) (by rw[z3,ll (by omega)];exact p),A⟩
       have N:DI M c y W a (List.set X v6.toNat t):=by
         have z:v6.toNat=i:=by omega
         rw[z];exact K
       exact ag 2 (bq (V (v6:=aa (v6+1)) I x N (by omega)))
     | false =>
       have v:((X.getD v6.toNat default).b.Kind == 1)=false:=by rw[s];exact A
       refine ah 21 v ?_;have x:Mx a Ds' X (i+1) v5:=by
         refine⟨n.len,q,fun j E=>?_,fun j E=>n.hi j (by omega),?_⟩
         · by_cases e:j=i
           · subst e;rw[r,o,t3 A]
           · exact n.lo j (by omega)
         · rw[n.blocks,List.take_succ,p,List.any_append];simp[A]
       exact ag 4 (bq (V (v6:=aa (v6+1)) I x B (by omega)))
   · have u:decide (v6<(X.length:Int))=false:=decide_eq_false (by rw[n.len];omega);refine aF 12 u (ac ?_);have O:i=a.length:=by have:=n.le;omega
     have J:X=Ds':=akz fun j=>by
       by_cases E:j<i
       · exact n.lo j E
       · rw[n.hi j (by omega),akH (by omega),akH (by omega)]
     have Q:v5=a.any fun D=>D.b.Kind == 1:=by rw[n.blocks,O,akj]
     subst J;rw[←Q]at h;exact ag 5 (VC (v6:=v6) B R hz h)
end
theorem ZA{l:g7}{b a:ab}{q f:d3}{c:Bool}(h:jI l { b with Kids:=q } f c=some a):jI l b [] c=some { a with Kids:=[] }∧a.Kids=f:=by
 unfold jI at h⊢;cases c with
 | false=>injection h with h;subst h;exact⟨rfl,rfl⟩
 | true =>
   simp only at h⊢;split at h
   · rename_i d;rw[ll d];obtain⟨g,h⟩:=aD h;rw[g];simp only[aE];split at h
     · rename_i e;rw[ll e];injection h with h;subst h;exact⟨rfl,rfl⟩
     · rename_i e;rw[kc e];injection h with h;subst h;exact⟨rfl,rfl⟩
   · rename_i d;rw[kc d];injection h with h;subst h;exact⟨rfl,rfl⟩
theorem Md(D:DB):D.plain.Kind=D.b.Kind:=by rw[DB.Nq]
theorem Li{N:Nat→Prop}{w:World}{ι:Env}{l:c6}{c d:AV}{x:Value}{q:Nat}(h:Rel N w ι (.agg (l.set q c)) x)(j:q<l.length)(o:∀v,Rel N w ι c v→Rel N w ι d v):Rel N w ι (.agg (l.set q d)) x:=by
 cases h with
 | agg _ _ vs f n k =>
   refine .agg _ _ vs (by simpa using f) n fun i a v b m=>?_;by_cases g:i=q
   · subst g;rw[acV j]at b;injection b with b;subst b
     exact o v (k i c v (acV j) m)
   · rw[ag1 (fun e=>g e.symm)]at b;exact k i a v (by rw[ag1 (fun e=>g e.symm)];exact b) m
theorem SK:∀{l:List DB},(bls l).Nodup→∀{D:DB},D∈l→D.bl.Nodup
 | [],_,D,a=>by cases a
 | d::r,h,D,a=>by
   have b:(d.bl++bls r).Nodup:=h;obtain⟨c,e,_⟩:=akY.1 b;rcases ol.1 a with rfl|a
   · exact c
   · exact SK e a
noncomputable section
theorem P7:∀(m:Nat) {l:g7} {D:DB} {F:ab},iw l m D.plain=some F→D.nd=true→(∃w,dP w D)→D.bl.Nodup →
   ∃o:DB,o.plain=F∧o.bl=D.bl∧qZ bb 42 [.agg D.cells,.sl (lm aI l)] (fun g=>g∈D.bl) (fun w=>dP w D) (.agg o.cells) (fun w=>dP w o)
 | 0,_,_,_,h,_,_,_=>by cases h
 | m+1,l,⟨nd,b,y,d⟩,F,h,S,⟨w1,p0⟩,hn=>by
   simp only at S;subst S;have h:(kO (iw l m) (iq d)).bind (fun X=>jI l { b with Kids:=iq d } X ((iq d).any fun k=>k.Kind == 1))=some F:=h;obtain⟨X,l0,h⟩:=bind_some h;obtain⟨K,Z⟩:=ZA h;obtain⟨g1,g2⟩:=N8 l0;have L:((iq d).any fun k=>k.Kind == 1)=d.any fun D=>D.b.Kind == 1:=by
     rw[mK,List.any_map];congr 1;funext D;show(D.plain.Kind == 1)=_;rw[Md]
   rw[L]at K;cases p0 with
   | node _ _ _ xs I q0 i0 B =>
   have G:(bls d).Nodup:=by
     have:(⟨true,b,y,d⟩:DB).bl.Nodup:=hn;simp only[DB.bl]at this;exact(akY.1 this).2.1
   have T:∀g∈bls d,br (some y)≠some g:=fun g J e=>by
     have h9:(⟨true,b,y,d⟩:DB).bl.Nodup:=hn;simp only[DB.bl,e]at h9;exact(List.nodup_cons.1 h9).1 J
   have step:∀(j:Nat) (D:DB),d[j]?=some D→∃o:DB,Cm l D o∧X[j]?=some o.plain:=fun j D s=>by
     obtain⟨k',r,t⟩:=g2 j D.plain (by rw[mK,Dk,s];rfl);rw[Md]at t;have C:=mm s;cases U:(D.b.Kind == 1) with
     | true =>
       rw[U]at t;have g0:D.nd=true:=by
         have hk:=B D C;cases hk with
         | leaf b0 y0 h0 A0 c0 r0=>exact absurd (by simpa using U) h0
         | node b0 y0 k0 x0=>rfl
       have f0:D.bl.Nodup:=SK G C;obtain⟨o,q1,q2,q3⟩:=P7 m (by simpa using t) g0 ⟨w1,B D C⟩ f0;exact⟨o,⟨q2,fun _=>q3,fun hf=>by rw[U]at hf;cases hf⟩,by rw[r,q1]⟩
     | false =>
       rw[U]at t;have Y:D.plain=k':=by simpa using t
       exact⟨D,⟨rfl,fun ht=>(by rw[U]at ht;cases ht),fun _=>rfl⟩,by rw[r,Y]⟩
   obtain⟨Ds',Q,u⟩:=I1 (P:=fun j (D o:DB)=>Cm l D o∧X[j]?=some o.plain) d 0 (fun j D s=>by rw[If];exact step j D s);have o0:∀(j:Nat) (D o:DB),d[j]?=some D→Ds'[j]?=some o→Cm l D o:=fun j D o s e0=>by
     obtain⟨D2,r,t,_⟩:=u j D s;rw[e0]at r;injection r with r;subst r;exact t
   have m0:iq Ds'=X:=by
     rw[mK];refine akz fun j=>?_;rw[Dk];by_cases hj:j<d.length
     · obtain⟨D2,r,_,Y⟩:=u j _ (kb hj);rw[If]at Y;rw[r,Y];rfl
     · rw[akH (by omega),akH (by rw[g1,mK,nx];omega)];rfl
   have O:bls Ds'=bls d:=by
     rw[pC,pC,Dn (f:=DB.bl) (g:=DB.bl) Q fun j a z=>by obtain⟨D2,r,t,_⟩:=u j a z;exact⟨D2,r,t.1⟩]
   have W:∃A n c,y=.slice A n c:=by
     rcases I.2 with⟨e,_⟩|⟨g,a0,d0,e,_⟩
     · exact⟨_,_,_,e⟩
     · exact⟨_,_,_,e⟩
   have R:d.length≤maxLen:=by
     rcases I.2 with⟨_,e⟩|⟨g,a0,d0,_,_,_,r,t,_⟩
     · rw[e];exact v9 _
     · exact aaN r t
   have V:y.oneCell'=true:=by obtain⟨A,n,c,rfl⟩:=W;rfl
   have H:(aB ({ b with Kids:=[] }:ab)).length=59:=rfl;refine⟨⟨true,{ F with Kids:=[] },y,Ds'⟩,?_,?_,?_⟩
   · show({ F with Kids:=iq Ds' }:ab)=F;rw[m0];subst Z;cases F;rfl
   · simp only[DB.bl,O]
   refine aip (id0:=700) (v0:=y) (ar:=⟨48,59,d.map DB.cells⟩) (args':=[.agg (List.set (aB ({ b with Kids:=[] }:ab)) 58 (.ref 700)),.sl (lm aI l)]) (c:=cat Tryz.f42 (pn 1)) Tryz.func42 (by kernel_rfl) _ Tryz.ntmps42 (lp (by kernel_rfl)) rfl (fun g J=>DT J) (fun w hw=>?_) (fun N w i a b9 x z E hr=>?_) (fun M w hM hw=>?_)
   · cases hw with
     | node _ _ _ xs K Z h3 h4 =>
       refine⟨xs,by simpa using K,fun e he=>?_,Z,fun j e he i c hc=>?_⟩
       · obtain⟨D,_,rfl⟩:=Do.1 he;exact DB.YT D
       · have q:(d.map DB.cells)[j]?=some e:=he;rw[Dk]at q;cases s:d[j]? with
         | none=>rw[s]at q;cases q
         | some D=>rw[s]at q;injection q with q;subst q;exact h3 j D s i c hc
   · match i,z,E with
     | 0,z,E =>
       injection z with z;injection E with E;subst z;subst E
       have hp:=HZ (y:=y) (show Rel N w bG (.agg (List.set (aB ({ b with Kids:=[] }:ab)) 58 (.vv y))) x from hr) (by rw[H];omega) rfl (fun v hv=>by cases hv;rfl) V;refine Li (hp N w (ext bG 700 y)) (by rw[H];omega) (fun v hv=>?_);cases hv;obtain⟨A,n,c,rfl⟩:=W;exact .ref _ _ _ _ _ (cO _ _ _)
     | 1,z,E =>
       injection z with z;injection E with E;subst z;subst E
       exact hr.pure rfl _
   · have hf:DI M w y (mY w 700 y) d d:=⟨.refl _ _,fun D s=>(by cases hw with|node _ _ _ xs K Z h3 h4=>exact h4 D s),fun g J=>hM g (by simp only[DB.bl,nw];exact .inr J) (T g J),rfl⟩;exact bm ⟨[(0,.agg (List.set (aB ({ b with Kids:=[] }:ab)) 58 (.ref 700))),(1,.sl (lm aI l))],[],[(700,⟨48,59,d.map DB.cells⟩)],[700,1000700]⟩ (ag 8 (ce (p:=pn 58) (d.length+1) (ahr (Ds':=Ds') (b:=b) (v6:=0) (v5:=false) (i:=0) G Q o0 R V rfl K (d.length+1) rfl ⟨rfl,v9 _,fun j hj=>absurd hj (Nat.not_lt_zero _),fun j _=>rfl,rfl⟩ hf (by omega))))
section
variable(M:Nat→Prop)(c:aC)(r:ab)(a X:g7)(v4:Int)(d:Nat)
abbrev FL:Cx:=⟨bb,36,M,c⟩
abbrev qS:=bodyPost bb Tryz.f13 (bP M c (fun v _=>v=.agg (aB r)))
abbrev Zd(a:dt)(s:AS):=VE (FL M c) (qS M c r) a .normal s
abbrev fz(n:Nat):aq:=.c (cat Tryz.f13 (pn n))
abbrev RS:dt:=[.b 0,fz 15]
abbrev TS:dt:=kl (FL M c) (qS M c r) RS (cat Tryz.f13 (pn 116)) d::RS
def sS:AS:=⟨[(0,.sl (lm aI a)),(2,.ptr 2 0),(3,.ref 300),(4,iI v4)],[(2,List.set (aB c9) 58 (.nils))],[(300,⟨37,58,lm aI X⟩)],[2,300]⟩
variable{M c r a X v4 d}{K:Kn}{n:Nat}
theorem Zp{t:ab×Int}(hX:X=a.map fy)(S:kF K n n X 0=some t)(L:iw X n t.1=some r):Zd M c r [fz 15] (sS a X v4):=by
 refine bX (ks':=[fz 30,fz 31]) 1 (gq 300 (aj 1 ?_));refine LC (Vv n S) (fun v w b2 W P H hG E=>?_);obtain⟨⟨nd,A,C,B⟩,q,G,I,s,o,F⟩:=W;simp only at q;subst q;subst I;rw[←G]at L;obtain⟨⟨j,e,i,f⟩,q1,Q,q3⟩:=P7 n L rfl ⟨_,s⟩ F;refine⟨fun g=>g∈(⟨true,A,C,B⟩:DB).bl,o,?_⟩;refine ac (bX (ks':=[fz 62,fz 63]) 1 (aj 2 ?_));refine ajH q3 (fun k y=>.inr y) (fun w _ hw=>s.b8 hw) (fun R hg Y V=>?_);refine ac (aN 1 ?_);refine tG (l:=[.agg (DB.cells ⟨j,e,i,f⟩)]) (by kernel_rfl) (fun w' ι x z hx=>?_);have p:fD (fun g=>g∈(⟨true,A,C,B⟩:DB).bl) c R:=(E.mono (fun _ h=>h.elim)).trans hg;have O:∀g,g∈(⟨true,A,C,B⟩:DB).bl→c.w.heap.size≤g:=fun g d=>aaN H (o g d).1;refine⟨x,.agg (aB r),_,ι,rfl,rfl,z.agb p O (fun k y=>⟨.inl y,P k y⟩),?_⟩;have u:dP w' ⟨j,e,i,f⟩:=Y.b8 fun g d=>by
   rw[Q]at d;have:=z.old g (.inr d);exact z.below.block g this.1 this.2
 have D:=u.rel (N:=NN M ι) (fun g d m=>by
   rw[Q]at d;rcases m with m|⟨id,m⟩
   · have T:=(P g m).1;have U:=O g d;exact absurd T (akf.2 U)
   · exact z.sep (.inr d) m)
 have J:Rel (NN M ι) w' ι (.agg (DB.cells ⟨j,e,i,f⟩)) x:=hx.mono (lc _) (fun b _ Z=>Z.elim (fun h=>.inl (.inl h)) .inr) (fun _ _ _=>rfl) (fun _ _ h=>h);rw[←dR,← q1,DB.OJ];exact Li J (by show 58<59;omega) (fun v I=>by cases I;exact D.pure rfl _)
theorem afl{t:ab×Int}(d:fits a.length 480=true)(q:kF K n n (a.map fy) 0=some t)(s:iw (a.map fy) n t.1=some r):
   ∀(m:Nat) {X:g7} {i:Nat} {v4:Int},v4=(i:Int)→X=(a.take i).map fy→i≤a.length→a.length<m+i→LP (FL M c) (qS M c r) RS (cat Tryz.f13 (pn 116)) m (sS a X v4):=by
 have o:a.length≤maxLen:=by
   unfold fits at d;simp only[iO,q7]at d;exact d.1
 intro m
 induction m with
 | zero=>intro X i v4 _ _ q s;omega
 | succ m x =>
   intro X i v4 v j y A;refine bn (bX (ks':=fz 464::fz 465::fz 233::TS M c r m) 2 (aj 2 (au (bu aI a) (aQ 4 1 ?_))));by_cases f:i<a.length
   · have g:decide (v4<(a.length:Int))=true:=aj6 (by omega);refine aF 11 g (ac ?_);have l:aM v4 a.length=true:=by
       unfold aM;rw[iO];exact⟨aj6 (by omega),aj6 (by omega)⟩
     have w:aa (v4+1)=((i+1:Nat):Int):=by
       rw[v];unfold maxLen at o;unfold aa;rw[akE];omega
     have k:a.getD v4.toNat default=a[i]:=by
       rw[v,tl,Int.toNat_natCast,kb f];rfl
     refine bX (ks':=fz 1864::fz 1865 :: .b 1::fz 467::TS M c r m) 5 (aj 2 (au (bB aI aI l (dB) aT) (ac (bX (ks':=fz 7461::fz 3731 :: .b 1::fz 467::TS M c r m) 3 ?_))));have e:X++[fy (a.getD v4.toNat default)]=(a.take (i+1)).map fy:=by
       rw[j,k,List.take_succ,kb f,IT];rfl
     have b:fits (X.length+[fy (a.getD v4.toNat default)].length) 480=true:=by
       have z:X.length=i:=by rw[j,nx,IN];omega
       unfold fits at d⊢;simp only[iO,q7,List.length_singleton]at d⊢;omega
     cases p:((a.getD v4.toNat default).Style.Position == 2) with
     | true =>
       refine ah 21 p (bX (ks':=fz 3731 :: .b 1::fz 467::TS M c r m) 2 (aj 2 ?_));have h:fy (a.getD v4.toNat default)={ a.getD v4.toNat default with Style:={ (a.getD v4.toNat default).Style with Position:=0 } }:=by unfold fy;rw[ll p]
       rw[h]at e b;exact au (gu aI [{ a.getD v4.toNat default with Style:={ (a.getD v4.toNat default).Style with Position:=0 } }] (new:=[aI { a.getD v4.toNat default with Style:={ (a.getD v4.toNat default).Style with Position:=0 } }]) rfl) (au (cw 27 300 37 58 aI (rfl) (dB) b) (ac (ag 2 (bq (x (v4:=aa (v4+1)) w e f (by omega))))))
     | false =>
       refine ah 21 p (bX (ks':=fz 3731 :: .b 1::fz 467::TS M c r m) 2 (aj 2 ?_));have h:fy (a.getD v4.toNat default)=a.getD v4.toNat default:=by unfold fy;rw[kc (by rw[p];simp)]
       rw[h]at e b;exact au (gu aI [a.getD v4.toNat default] (new:=[aI (a.getD v4.toNat default)]) rfl) (au (cw 27 300 37 58 aI (rfl) (dB) b) (ac (ag 2 (bq (x (v4:=aa (v4+1)) w e f (by omega))))))
   · have g:decide (v4<(a.length:Int))=false:=decide_eq_false (by omega);refine aF 11 g (ac ?_);have u:i=a.length:=by omega
     rw[u,akj]at j;rw[←j]at q s;exact ag 5 (Zp (v4:=v4) j q s)
theorem ZK(h:qW K n a=some r):bc bb 13 [.sl (lm aI a)] (fun v _=>v=.agg (aB r)):=by
 unfold qW at h;obtain⟨b,h⟩:=aD h;obtain⟨t,d,e⟩:=bind_some h;exact bH (cat Tryz.f13 (pn 1)) Tryz.func13 Tryz.ntmps13 fun M c=>(bm ⟨[(0,.sl (lm aI a))],[],[],[]⟩ (bX (ks':=[fz 58,.b 0,fz 15]) 8 (bJ [0,2,3,4] [2] [] (eQ 300 3 37 58 (ag 0 (ce (p:=pn 58) (a.length+1) (afl b d e (a.length+1) (X:=[]) (i:=0) rfl rfl (v9 _) (by omega))))))))
end
end
theorem PS[GS]{K:Kn}{n:Nat}{a:g7}{r:ab}(b:ao K)(h:qW K n a=some r):bc bb 13 [.sl (lm aI a)] (fun v _=>v=.agg (aB r)):=ZK h
noncomputable section
variable[GS](M:Nat→Prop)(b:aC)(r a:g7)(v2:eK)(c:g7)  
abbrev n9(n:Nat):aq:=.c (cat Tryz.f14 (pn n))
abbrev VP:Cx:=⟨bb,105,M,b⟩
abbrev q14:=bodyPost bb Tryz.f14 (bP M b (fun v s=>v=.ref 7∧look 7 s.r=some ⟨37,58,lm aI r⟩))
abbrev abB(a:dt)(s:AS):=VE (VP M b) (q14 M b r) a .normal s
def aen:AS:=⟨[(5,.ref 7)],[],[(7,⟨37,58,lm aI c⟩)],[7]⟩
variable{M b r a v2 c}{K:Kn}{n:Nat}
theorem Uz(a:ao K)(h:xu K n c=some r):abB M b r [.b 0,n9 63] (aen c):=by
 unfold xu at h;refine aN 4 ?_;cases h;exact eB
theorem aeK(Q:ao K)(h:yt K n a v2=some r):bc bb 14 [.sl (lm aI a),.agg (d9 v2)] (fun v s=>v=.ref 7∧look 7 s.r=some ⟨37,58,lm aI r⟩):=by
 refine bH (cat Tryz.f14 (pn 1)) Tryz.func14 Tryz.ntmps14 fun M b=>(bm ⟨[(0,.sl (lm aI a)),(1,.agg (d9 v2))],[],[],[]⟩ ?_);unfold yt at h;refine ax 6 7 3 (aj 0 (Cf 22 7 (e:=37) (sz:=58) (aQ 2 1 ?_)));obtain⟨R,h⟩:=aD h;refine au (cw 9 7 37 58 aI (rfl) (dB) R) (ac (cf 4 5 3 2 (aj 1 (au (bu aI a) (ac ?_)))));obtain⟨B,h⟩|⟨B,h⟩:=am h
 ·refine ah 12 B (ax 4 5 2 (bJ [0,3,5] [3] [7] ?_));obtain⟨O,h⟩:=aD h;obtain⟨S,h⟩:=aD h;refine bN 2 (nu 13 [.ref 7,.sl (lm aI a),.cptr (aI (gD a (0:Int))),.cptr (List.drop 0 (aI (gD a (0:Int)))),.int .u8 ((gD a (0:Int)).Depth),.int .u8 (IntKind.wrap .u8 (((gD a (0:Int)).Depth)+1)),.ptr 3 2,.ptr 3 7,.agg (aH v2.Spec.Style),.agg (aI ({ tH with Depth:=(IntKind.wrap .u8 (((gD a (0:Int)).Depth)+1)),Style:=v2.Spec.Style }:aL)),.sl (lm aI [({ tH with Depth:=(IntKind.wrap .u8 (((gD a (0:Int)).Depth)+1)),Style:=v2.Spec.Style }:aL)])]) [] [] [fS 24 7 ⟨37,58,lm aI ((([]:g7)++a)++[({ tH with Depth:=(IntKind.wrap .u8 (((gD a (0:Int)).Depth)+1)),Style:=v2.Spec.Style }:aL)])⟩,cd bb 105 Tryz.f14 (pn 116) 12] (av [.v 0 1,.v 0 2] (ai (fh (lo:=0) (k:=2) (da ⟨(by kernel_rfl),(dc (bB aI aI O (dB) aT) (by kernel_rfl))⟩ (da ⟨(by kernel_rfl),(dc (bB aI aI O (dB) aT) (by kernel_rfl))⟩ ft))) (av [.v 0 2,.v 0 2,.v 0 2,.v 0 2,.v 0 2,.v 0 2,.v 0 2,.v 0 1] (ai (dd (m:=0) (cw 24 7 37 58 aI (rfl) (dB) S)) (ai (cb 1) bL))))) (aN 2 ?_)
  cases h;exact eB
 ·refine ah 12 B (fV 2 3 3 (aj 4 (au (bu aI a) (aQ 6 1 ?_))));obtain⟨U,h⟩:=aD h;refine au (Hn .i64 (aa v2.At) U) (ac ?_);obtain⟨c,V,h⟩:=bV h;refine bz (ks':=[n9 501,.b 0,n9 63]) 6 ⟨[(3,.ptr 3 0),(5,.ref 7),(6,iI c),(35,.int .u8 (Int.tmod v2.Kind 4)),(56,.bool ((Int.tmod v2.Kind 4) == 0))],[(3,d9 v2)],[(7,⟨37,58,lm aI (([]:g7)++a)⟩)],[3,7]⟩ ?_ (by subst V;kernel_rfl);obtain⟨N,h⟩|⟨N,h⟩:=am h
  ·refine ah 56 N (ax 4 5 2 (bJ [3,5,6] [3] [7] ?_));obtain⟨W,h⟩:=aD h;obtain⟨P,h⟩:=aD h;obtain⟨d,h⟩:=aD h;refine bN 3 (nu 58 [.ref 7,iI c,.eptr 7 58 (c.toNat) 0,.eptr 7 58 (c.toNat) 0,.int .u8 ((gD (([]:g7)++a) c).Depth),.ref 7,iI c,.eptr 7 58 (c.toNat) 0,.eptr 7 58 (c.toNat) 1,.int .u8 ((gD (([]:g7)++a) c).Kind),.ref 7,iI c,.eptr 7 58 (c.toNat) 0,.eptr 7 58 (c.toNat) 3,.int .u8 ((gD (([]:g7)++a) c).Rows),.ptr 3 2,.ptr 3 2,.ptr 3 2,.ptr 3 3,.ptr 3 2,.ptr 3 5]) [] [] [cd bb 105 Tryz.f14 (pn 2004) 17,cd bb 105 Tryz.f14 (pn 2004) 20,cd bb 105 Tryz.f14 (pn 2004) 23] (av (vz 2) (bh (cD 7 58 aI (L:=(([]:g7)++a)) W) (av [.v 0 1] (bh (bI 5 0 aI aI (bD d).2 aT) (av [.v 0 2,.v 0 2] (ai (fh (lo:=0) (k:=2) (da ⟨(by kernel_rfl),(dc (cD 7 58 aI (L:=(([]:g7)++a)) P) (by kernel_rfl))⟩ (da ⟨(by kernel_rfl),(dc (cD 7 58 aI (L:=(([]:g7)++a)) P) (by kernel_rfl))⟩ ft))) (av [.v 0 2] (ai (fh (lo:=0) (k:=2) (da ⟨(by kernel_rfl),(dc (bI 5 1 aI aI (bD d).2 aT) (by kernel_rfl))⟩ (da ⟨(by kernel_rfl),(dc (bI 5 1 aI aI (bD d).2 aT) (by kernel_rfl))⟩ ft))) (av [.v 0 3,.v 0 3] (ai (fh (lo:=0) (k:=3) (da ⟨(by kernel_rfl),(dc (cD 7 58 aI (L:=(([]:g7)++a)) d) (by kernel_rfl))⟩ (da ⟨(by kernel_rfl),(dc (cD 7 58 aI (L:=(([]:g7)++a)) d) (by kernel_rfl))⟩ (da ⟨(by kernel_rfl),(dc (cD 7 58 aI (L:=(([]:g7)++a)) d) (by kernel_rfl))⟩ ft)))) (av [.v 0 3] (ai (fh (lo:=0) (k:=3) (da ⟨(by kernel_rfl),(dc (bI 5 3 aI aI (bD d).2 aT) (by kernel_rfl))⟩ (da ⟨(by kernel_rfl),(dc (bI 5 3 aI aI (bD d).2 aT) (by kernel_rfl))⟩ (da ⟨(by kernel_rfl),(dc (bI 5 3 aI aI (bD d).2 aT) (by kernel_rfl))⟩ ft)))) (av [.v 0 2,.v 0 1] (ai (cb 0) (av [.v 1 2,.v 1 1] (ai (cb 1) (av [.v 2 2,.v 2 1] (ai (cb 2) bL)))))))))))))))))) ?_
   obtain⟨v4,u,h⟩:=bV h;obtain⟨v5,w,h⟩:=bV h;obtain⟨v6,z,h⟩:=bV h;refine bz (ks':=[n9 2005,.b 0,n9 63]) 0 ⟨[(3,.ptr 3 0),(5,.ref 7),(6,iI c)],[(3,d9 ({ v2 with Spec:=({ v2.Spec with Depth:=v4,Kind:=v5,Rows:=v6 }:aL) }:eK))],[(7,⟨37,58,lm aI (([]:g7)++a)⟩)],[3,7]⟩ ?_ (by subst z;subst w;subst u;kernel_rfl);refine aj 4 ?_;obtain⟨l,h⟩:=aD h;exact au (cp 7 58 aI l) (au (dz 7 37 58 0 aI aI ({ v2.Spec with Depth:=v4,Kind:=v5,Rows:=v6 }:aL) (bD l).2 aT) (ac (ag 0 (Uz Q h))))
  ·refine ah 56 N (bp 7 3 ?_);obtain⟨g,h⟩|⟨g,h⟩:=am h
   ·refine ah 84 g (bp 2 1 (aj 2 ?_));obtain⟨o,h⟩:=aD h;refine au (cp 7 58 aI o) (aQ 4 1 (au (bI 9 2 aI aI (bD o).2 aT) ?_));obtain⟨A,h⟩:=aD h;refine au (W5 A) ?_;obtain⟨p,h⟩:=aD h;exact au (cp 7 58 aI p) (aQ 8 1 (au (dz 7 37 58 2 aI aI ({ (gD (([]:g7)++a) c)with Text:=(((gD (([]:g7)++a) c).Text)++(⟨#[120]⟩:ByteArray)) }:aL) (bD p).2 aT) (ac (ag 0 (Uz Q h)))))
   ·refine ah 84 g (bp 7 3 ?_);obtain⟨i,h⟩|⟨i,h⟩:=am h
    ·refine ah 94 i (ax 4 5 2 (bJ [5,6] [] [7] ?_));obtain⟨C,h⟩:=aD h;obtain⟨D,h⟩:=aD h;refine aaw 7 0 [(96,.ref 7),(97,iI c),(98,.sref 7 58 ((0:Int).toNat) (c.toNat-(0:Int).toNat)),(99,.ref 7),(100,iI c),(101,iI (aa (c+1))),(102,.sref 7 58 (((aa (c+1))).toNat) ((((([]:g7)++a).length:Int)).toNat-((aa (c+1))).toNat))] [] [] [] (av (vz 2) (bh (UB aI (([]:g7)++a) (0:Int) c 22 (.tmp 96) none (some (.tmp 97)) 98 (id:=7) (e:=37) (sz:=58) (et:=37) (by kernel_rfl) (by kernel_rfl) (by kernel_rfl) (by kernel_rfl) (by kernel_rfl) (by kernel_rfl) (by kernel_rfl) (fun k f=>by subst f;kernel_rfl) C) (av (vz 3) (bh (UB aI (([]:g7)++a) (aa (c+1)) ((([]:g7)++a).length:Int) 22 (.tmp 99) (some (.tmp 101)) none 102 (id:=7) (e:=37) (sz:=58) (et:=37) (by kernel_rfl) (by kernel_rfl) (by kernel_rfl) (by kernel_rfl) (by kernel_rfl) (by kernel_rfl) (by kernel_rfl) (fun k f=>by subst f;kernel_rfl) D) (AX))))) ?_
     obtain⟨E,h⟩:=aD h;refine abS 103 7 37 58 (c.toNat-(0:Int).toNat) (((aa (c+1))).toNat) ((((([]:g7)++a).length:Int)).toNat-((aa (c+1))).toNat) aI (L:=(([]:g7)++a)) (x:=(.tmp 98)) (y:=(.tmp 102)) (T:=22) (bytes:=480) E (ac (aN 3 ?_));cases h;exact eB
    ·refine ah 94 i (ax 6 7 2 (aj 2 ?_));obtain⟨q,h⟩:=aD h;refine au (cp 7 58 aI q) (aQ 4 1 (au (bI 5 0 aI aI (bD q).2 aT) (ac ?_)));obtain⟨t,F,h⟩:=bV h;refine bz (ks':=[n9 64254,n9 64255,.b 0,n9 63]) 1 ⟨[(3,.ptr 3 0),(5,.ref 7),(6,iI c)],[(3,d9 ({ v2 with Spec:=({ v2.Spec with Depth:=t }:aL) }:eK))],[(7,⟨37,58,lm aI (([]:g7)++a)⟩)],[3,7]⟩ ?_ (by subst F;kernel_rfl);refine gq 7 ?_;obtain⟨G,h⟩:=aD h;obtain⟨H,h⟩:=aD h;obtain⟨I,h⟩:=aD h;obtain⟨j,h⟩:=aD h;obtain⟨J,h⟩:=aD h;refine bN 4 (nu 43 [.ref 43,.sl (lm aI (([]:g7)++a)),iI c,.sl (lm aI (List.drop ((0:Int)).toNat (List.take c.toNat (([]:g7)++a))))]++nu 48 [.ptr 3 2,.agg (aI ({ v2.Spec with Depth:=t }:aL)),.sl (lm aI [({ v2.Spec with Depth:=t }:aL)])]++nu 52 [.sl (lm aI (([]:g7)++a)),iI c,.sl (lm aI (List.drop c.toNat (List.take (((([]:g7)++a).length:Int)).toNat (([]:g7)++a))))]) [] [(43,⟨37,58,[]⟩)] [fS 47 43 ⟨37,58,lm aI (([]:g7)++(List.drop ((0:Int)).toNat (List.take c.toNat (([]:g7)++a))))⟩,fS 51 43 ⟨37,58,lm aI ((([]:g7)++(List.drop ((0:Int)).toNat (List.take c.toNat (([]:g7)++a))))++[({ v2.Spec with Depth:=t }:aL)])⟩,fS 55 43 ⟨37,58,lm aI (((([]:g7)++(List.drop ((0:Int)).toNat (List.take c.toNat (([]:g7)++a))))++[({ v2.Spec with Depth:=t }:aL)])++(List.drop c.toNat (List.take (((([]:g7)++a).length:Int)).toNat (([]:g7)++a))))⟩,cd bb 105 Tryz.f14 (pn 64254) 13] (ai (e_n 0 1 22 43 37 58) (av [.v 0 4,.v 0 4] (bh (i7 aI (([]:g7)++a) (0:Int) c 22 (.tmp 44) none (some (.tmp 45)) 46 (e:=37) (sz:=58) (by kernel_rfl) (by kernel_rfl) (by kernel_rfl) (by kernel_rfl) (by kernel_rfl) (by kernel_rfl) (dB) (fun k f=>by subst f;kernel_rfl) G) (ai (dd (m:=0) (cw 47 43 37 58 aI (rfl) (dB) H)) (av [.v 0 4,.v 0 4,.v 0 2] (ai (dd (m:=1) (cw 51 43 37 58 aI (rfl) (dB) I)) (av [.v 0 4,.v 0 4] (ai (fh (lo:=0) (k:=3) (da ⟨(by kernel_rfl),(dc (i7 aI (([]:g7)++a) c ((([]:g7)++a).length:Int) 22 (.tmp 52) (some (.tmp 53)) none 54 (e:=37) (sz:=58) (by kernel_rfl) (by kernel_rfl) (by kernel_rfl) (by kernel_rfl) (by kernel_rfl) (by kernel_rfl) (dB) (fun k f=>by subst f;kernel_rfl) j) (by kernel_rfl))⟩ (da ⟨(by kernel_rfl),(dc (i7 aI (([]:g7)++a) c ((([]:g7)++a).length:Int) 22 (.tmp 52) (some (.tmp 53)) none 54 (e:=37) (sz:=58) (by kernel_rfl) (by kernel_rfl) (by kernel_rfl) (by kernel_rfl) (by kernel_rfl) (by kernel_rfl) (dB) (fun k f=>by subst f;kernel_rfl) j) (by kernel_rfl))⟩ (da ⟨(by kernel_rfl),(dc (i7 aI (([]:g7)++a) c ((([]:g7)++a).length:Int) 22 (.tmp 52) (some (.tmp 53)) none 54 (e:=37) (sz:=58) (by kernel_rfl) (by kernel_rfl) (by kernel_rfl) (by kernel_rfl) (by kernel_rfl) (by kernel_rfl) (dB) (fun k f=>by subst f;kernel_rfl) j) (by kernel_rfl))⟩ ft)))) (ai (dd (m:=2) (cw 55 43 37 58 aI (rfl) (dB) J)) (ai (cb 3) bL)))))))))) (aN 3 (bJ [4] [] [43] (pG 43 7 ?_)))
     cases h;exact eB
end
noncomputable section
variable[GS](M:Nat→Prop)(b:aC)(r:Int)(a:ab)(v6 c:Int)(g:Bool)(e:Int)(d:Nat)(f:Int→Int→Option Int)
abbrev GW:Cx:=⟨bb,38,M,b⟩
abbrev HA:=bodyPost bb Tryz.f15 (bP M b (fun v _=>v=iI r))
abbrev JM(a:dt)(s:AS):=VE (GW M b) (HA M b r) a .normal s
abbrev Au(n:Nat):aq:=.c (cat Tryz.f15 (pn n))
abbrev GA:dt:=[.b 0,Au 15]
abbrev Fi:dt:=kl (GW M b) (HA M b r) GA (cat Tryz.f15 (pn 116)) d::GA
def adP:AS:=⟨[(1,.ptr 1 0),(3,iI e),(4,iI c)],[(1,aB a)],[],[1]⟩
def aed:AS:=⟨[(1,.ptr 1 0),(3,iI v6),(4,iI c),(27,.bool g)],[(1,aB a)],[],[1]⟩
def Qy:AS:=⟨[(1,.ptr 1 0),(3,iI v6),(4,iI c)],[(1,aB a)],[],[1]⟩
abbrev DW:Prop:=∀{v6:Int} {c:Int},f v6 c=some r→LP (GW M b) (HA M b r) GA (cat Tryz.f15 (pn 116)) d (Qy a v6 c)
variable{M b r a v6 c g e d f}{K:Kn}{n:Nat}
theorem LG(i:ao K)(g:DW M b r a d f)(h:yI K n a c f e=some r):JM M b r (.b 1::Au 467::Fi M b r d) (adP a c e):=by
 unfold yI at h;exact ag 2 (bq (g h))
theorem OL(l:ao K)(i:DW M b r a d f)(h:Ay K n a v6 c f g=some r):JM M b r (Au 1865 :: .b 1::Au 467::Fi M b r d) (aed a v6 c g):=by
 unfold Ay at h;obtain⟨e,h⟩|⟨e,h⟩:=am h
 ·refine ah 27 e (bp 2 1 (aj 4 ?_));obtain⟨j,h⟩:=aD h;refine au (bB aK aB j (fu) (dR)) (aQ 6 1 ?_);obtain⟨m,k,h⟩:=bind_some h;exact aU (l.xE k) (ac (ag 0 (LG l i h)))
 ·exact ah 27 e (ag 2 (LG l i h))
theorem acK(l:ao K)(g:DW M b r a d f)(h:zy K n a f v6 c=some r):JM M b r (Au 116::Fi M b r d) (Qy a v6 c):=by
 unfold zy at h;refine cf 4 5 3 2 (aj 3 (au (bu aK a.Kids) (ac ?_)));obtain⟨k,h⟩|⟨k,h⟩:=am h
 ·refine ah 9 k (cT 8 9 1 3 5 (aj 3 ?_));obtain⟨i,h⟩:=aD h;refine au (bB aK aB i (fu) (dR)) (aQ 8 4 ?_);obtain⟨e,h⟩|⟨e,h⟩:=am h
  ·exact aF 19 e (ac (ag 0 (OL l g h)))
  ·refine aF 19 e (aQ 11 3 ?_);obtain⟨j,h⟩:=aD h;exact au (bB aK aB j (fu) (dR)) (ac (ag 0 (OL l g h)))
 ·refine ah 9 k (aN 8 ?_);cases h;exact bE
theorem ahh(d:ao K)(m:Nat):DW M b r a m (rk K n a m):=by
 induction m with
 | zero=>intro v6 c h;cases h
 | succ m e=>intro v6 c h;have h:zy K n a (rk K n a m) v6 c=some r:=h;exact bn (acK d e h)
theorem F5(c:ao K)(h:uA K n a=some r):bc bb 15 [.agg (aB a)] (fun v _=>v=iI r):=by
 refine bH (cat Tryz.f15 (pn 1)) Tryz.func15 Tryz.ntmps15 fun M b=>(bm ⟨[(0,.agg (aB a))],[],[],[]⟩ ?_);unfold uA at h;exact ag 8 (ce (p:=pn 58) n (ahh c n h))
end
noncomputable section
variable[GS](M:Nat→Prop)(b:aC)(r:Bool)(a v2:ae)(e:Bool)(v6:Int)(c:Nat)(d:Int→Option Bool)
abbrev Gq:Cx:=⟨bb,116,M,b⟩
abbrev Ku:=bodyPost bb Tryz.f16 (bP M b (fun v _=>v=.bool r))
abbrev NV(a:dt)(s:AS):=VE (Gq M b) (Ku M b r) a .normal s
abbrev El(n:Nat):aq:=.c (cat Tryz.f16 (pn n))
abbrev JH:dt:=[.b 0,El 15]
abbrev YO:dt:=kl (Gq M b) (Ku M b r) JH (cat Tryz.f16 (pn 116)) c::JH
def Uy:AS:=⟨[(2,.ptr 2 0),(3,.ptr 3 0),(5,iI v6)],[(2,aG a),(3,aG v2)],[],[2,3]⟩
def abt:AS:=⟨[(2,.ptr 2 0),(3,.ptr 3 0),(96,.bool e)],[(2,aG a),(3,aG v2)],[],[2,3]⟩
abbrev Rv:Prop:=∀{v6:Int},d v6=some r→LP (Gq M b) (Ku M b r) JH (cat Tryz.f16 (pn 116)) c (Uy a v2 v6)
variable{M b r a v2 e v6 c d}{K:Kn}{n:Nat}
theorem WV(m:ao K)(k:Rv M b r a v2 c d)(h:xn K n a v2 d v6=some r):NV M b r (El 116::YO M b r c) (Uy a v2 v6):=by
 unfold xn at h;refine cf 4 5 3 2 (aj 3 (au (bu aO a.Kids) (ac ?_)));obtain⟨e,h⟩|⟨e,h⟩:=am h
 ·refine ah 101 e (cT 8 9 1 3 5 (bJ [2,3,5] [2,3] [] ?_));obtain⟨g,h⟩:=aD h;obtain⟨i,h⟩:=aD h;obtain⟨l,j,h⟩:=bind_some h;refine bN 0 (nu 104 [.ptr 2 66,.sl (lm aO a.Kids),iI v6,.cptr (aG (gD a.Kids v6)),.agg (aG (gD a.Kids v6)),.ptr 3 66,.sl (lm aO v2.Kids),iI v6,.cptr (aG (gD v2.Kids v6)),.agg (aG (gD v2.Kids v6)),.bool l,.bool (!l)]) [] [] [] (av (vz 3) (bh (bB aO aG g (j4) (dN)) (av (vz 4) (bh (bB aO aG i (j4) (dN)) (av [.v 0 1] (ai (co 0 1 114 (m.AM j)) (av [.v 0 1] bL))))))) ?_;obtain⟨f,h⟩|⟨f,h⟩:=am h
  ·refine ah 115 f (aN 9 ?_);cases h;exact bE
  ·exact ah 115 f (ag 4 (bq (k h)))
 ·refine ah 101 e (aN 8 ?_);cases h;exact bE
theorem XA(c:ao K)(m:Nat):Rv M b r a v2 m (tE K n a v2 m):=by
 induction m with
 | zero=>intro v6 h;cases h
 | succ m d=>intro v6 h;have h:xn K n a v2 (tE K n a v2 m) v6=some r:=h;exact bn (WV c d h)
theorem js(d:ao K)(h:gR K n a v2 e=some r):NV M b r [El 13,El 7] (abt a v2 e):=by
 unfold gR at h;obtain⟨c,h⟩|⟨c,h⟩:=am h
 ·refine ah 96 c (aN 5 ?_);cases h;exact bE
 ·exact ah 96 c (ag 6 (ce (p:=pn 58) n (XA d n h)))
theorem Q2(c:ao K)(h:qz K n a v2=some r):bc bb 16 [.agg (aG a),.agg (aG v2)] (fun v _=>v=.bool r):=by
 refine bH (cat Tryz.f16 (pn 1)) Tryz.func16 Tryz.ntmps16 fun M b=>(bm ⟨[(0,.agg (aG a)),(1,.agg (aG v2))],[],[],[]⟩ ?_);unfold qz at h;refine cf 12 13 7 4 (aj 6 ?_);obtain⟨g,h⟩|⟨g,h⟩:=am h
 ·exact aF 11 g (ac (ag 0 (js c h)))
 ·refine aF 11 g (aQ 13 7 ?_);obtain⟨i,h⟩|⟨i,h⟩:=am h
  ·exact aF 18 i (ac (ag 0 (js c h)))
  ·refine aF 18 i (aQ 20 7 ?_);obtain⟨j,h⟩|⟨j,h⟩:=am h
   ·exact aF 25 j (ac (ag 0 (js c h)))
   ·refine aF 25 j (aQ 27 7 ?_);obtain⟨k,h⟩|⟨k,h⟩:=am h
    ·exact aF 32 k (ac (ag 0 (js c h)))
    ·refine aF 32 k (aQ 34 7 ?_);obtain⟨l,h⟩|⟨l,h⟩:=am h
     ·exact aF 39 l (ac (ag 0 (js c h)))
     ·refine aF 39 l (aQ 41 7 ?_);obtain⟨m,h⟩|⟨m,h⟩:=am h
      ·exact aF 46 m (ac (ag 0 (js c h)))
      ·refine aF 46 m (aQ 48 7 ?_);obtain⟨o,h⟩|⟨o,h⟩:=am h
       ·exact aF 53 o (ac (ag 0 (js c h)))
       ·refine aF 53 o (aQ 55 7 ?_);obtain⟨p,h⟩|⟨p,h⟩:=am h
        ·exact aF 60 p (ac (ag 0 (js c h)))
        ·refine aF 60 p (aQ 62 7 ?_);obtain⟨q,h⟩|⟨q,h⟩:=am h
         ·exact aF 67 q (ac (ag 0 (js c h)))
         ·refine aF 67 q (aQ 69 7 ?_);obtain⟨d,h⟩|⟨d,h⟩:=am h
          ·exact aF 74 d (ac (ag 0 (js c h)))
          ·refine aF 74 d (aQ 76 7 ?_);obtain⟨e,h⟩|⟨e,h⟩:=am h
           ·exact aF 81 e (ac (ag 0 (js c h)))
           ·refine aF 81 e (aQ 83 7 ?_);obtain⟨f,h⟩|⟨f,h⟩:=am h
            ·exact aF 88 f (ac (ag 0 (js c h)))
            ·exact aF 88 f (aQ 85 2 (au (bu aO a.Kids) (aQ 88 2 (au (bu aO v2.Kids) (ac (ag 0 (js c h)))))))
end
noncomputable section
variable(M:Nat→Prop)(i:aC)(r:Bool)(q:g7)(v2:List eK)(j:V2 Int)(a:g7)(c d f:Int)(g:dO)(k:Bool)(l:Nat)(o:g7→Int→Int→Int→dO→Option Bool)
abbrev EJ:Cx:=⟨bb,76,M,i⟩
abbrev q3:=bodyPost bb Tryz.f3 (bP M i (fun v _=>v=.bool r))
abbrev PO(a:dt)(s:AS):=VE (EJ M i) (q3 M i r) a .normal s
abbrev EZ(n:Nat):aq:=.c (cat Tryz.f3 (pn n))
abbrev Kb:dt:=[.b 0,EZ 63]
abbrev MR:dt:=kl (EJ M i) (q3 M i r) Kb (cat Tryz.f3 (pn 500)) l::Kb
def Zl:AS:=⟨[(6,.bool k)],[],[],[]⟩
def TP:AS:=⟨[(0,.sl (lm aI a)),(5,.ptr 5 0),(7,.ptr 7 0),(20,.sl (lm d9 v2)),(21,iI (v2.length:Int)),(22,iI c)],[(5,(AK (ak .i64)) j),(7,List.set (bA (⟨[],d,f⟩:bv)) 0 (.ref 400007))],[(400007,(bt g))],[5,7,400007]⟩
abbrev PZ:Prop:=∀{a:g7} {c:Int} {d:Int} {f:Int} {g:dO},o a c d f g=some r→LP (EJ M i) (q3 M i r) Kb (cat Tryz.f3 (pn 500)) l (TP v2 j a c d f g)
variable{M i r q v2 j a c d f g k l o}{K:Kn}{n:Nat}
theorem Cq(a:∀ [GS],ao K)(h:se K n k=some r):PO M i r [EZ 2047] (Zl k):=by
 letI:GS:=⟨0⟩;have b:=@a ⟨0⟩
 unfold se at h;refine aN 1 ?_;cases h;exact bE
theorem Xx(t:∀ [GS],ao K)(I:PZ M i r v2 j l o)(h:AO K n v2 j o a c d f g=some r):PO M i r (EZ 500::MR M i r l) (TP v2 j a c d f g):=by
 letI:GS:=⟨0⟩;have w:=@t ⟨0⟩
 unfold AO at h;refine ax 6 7 3 ?_;obtain⟨u,h⟩|⟨u,h⟩:=am h
 ·refine ah 23 u (cT 8 9 1 3 5 (aj 0 ?_));obtain⟨A,h⟩:=aD h;refine au (bB d9 d9 A (LZ) aT) (ac (ax 2 3 1 (bJ [0,5,7,9,20,21,22] [5,7,9] [400007] ?_)));obtain⟨J,B,h⟩:=bind_some h;refine UY 4 0 [(26,.sl (lm aI a)),(27,.agg (aB J)),(28,.ptr 5 0),(29,iI j.a0)] [] [] [] (av [.v 0 1] (ai (co 0 1 27 (PS w B)) (av (vz 2) (AX)))) ?_;obtain⟨L,C,h⟩:=bind_some h;refine Ba 7 400007 (fun [GS]=>(z8 t C)) (ac (aj 2 ?_));obtain⟨N,D,h⟩:=bind_some h;exact eT 1033 (aeK w D) (eO 7) (ac (bX (ks':=MR M i r l) 2 (gq 1033 (ag 0 (bq (I h))))))
 ·refine ah 23 u (gB 2 3 6 (aj 1 ?_));obtain⟨y,E,h⟩:=bind_some h;refine aU (PS w E) (ac (ax 2 3 1 (aj 5 ?_)));obtain⟨m,F,h⟩:=bind_some h;refine Ba 7 400007 (fun [GS]=>(z8 t F)) (ac (ax 2 3 1 (aj 2 (au (bu aZ m.2.2.2) (ac (ax 2 3 1 (aj 5 ?_)))))));obtain⟨k,G,h⟩:=bind_some h;refine Ba 7 400007 (fun [GS]=>(z8 t G)) (ac (ax 2 3 1 (bJ [7,10,11,12,13] [7,10,11,13] [400007] ?_)));obtain⟨q,h⟩|⟨q,h⟩:=am h
  ·obtain⟨s,h⟩|⟨s,h⟩:=am h
   ·obtain⟨p,x,h⟩:=bind_some h;obtain⟨v,h⟩|⟨v,h⟩:=am h
    ·obtain⟨z,H,h⟩:=bind_some h;exact bN 1 (nu 52 [.ptr 7 1,iI k.2.1,.bool (k.2.1 == 0),.bool true,.ptr 7 0,.ref 400007,iI (k.2.2.2.length:Int),iI (m.2.2.2.length:Int),.bool ((k.2.2.2.length:Int) == (m.2.2.2.length:Int)),.bool ((k.2.2.2.length:Int) == (m.2.2.2.length:Int)),.bool true,.ptr 7 2,iI k.2.2.1,.bool (decide (k.2.2.1>0)),.agg (aB y),iI p,.bool (decide (p>0)),.bool ((decide (k.2.2.1>0)) == (decide (p>0))),.bool ((decide (k.2.2.1>0)) == (decide (p>0))),.bool true,.agg (aG m.1),.agg (aG k.1),.bool z,.bool z]) [] [] [cd bb 76 Tryz.f3 (pn 2046) 24] (av (vz 3) (ai (cH 0 55 (e:=(k.2.1 == 0)) (b:=true) q) (av (vz 2) (bh (bu aZ k.2.2.2) (av (vz 3) (ai (cH 0 62 (e:=((k.2.2.2.length:Int) == (m.2.2.2.length:Int))) (b:=true) s) (av (vz 4) (ai (co 0 1 67 (F5 w x)) (av (vz 3) (ai (cH 0 71 (e:=((decide (k.2.2.1>0)) == (decide (p>0)))) (b:=true) v) (av (vz 2) (ai (co 0 1 74 (Q2 w H)) (av [.v 0 1] (ai (cb 0) bL)))))))))))))) (ag 0 (Cq t h))
    ·exact bN 1 (nu 52 [.ptr 7 1,iI k.2.1,.bool (k.2.1 == 0),.bool true,.ptr 7 0,.ref 400007,iI (k.2.2.2.length:Int),iI (m.2.2.2.length:Int),.bool ((k.2.2.2.length:Int) == (m.2.2.2.length:Int)),.bool ((k.2.2.2.length:Int) == (m.2.2.2.length:Int)),.bool true,.ptr 7 2,iI k.2.2.1,.bool (decide (k.2.2.1>0)),.agg (aB y),iI p,.bool (decide (p>0)),.bool ((decide (k.2.2.1>0)) == (decide (p>0))),.bool ((decide (k.2.2.1>0)) == (decide (p>0))),.bool false,bf,bf,bf,.bool false]) [] [] [cd bb 76 Tryz.f3 (pn 2046) 24] (av (vz 3) (ai (cH 0 55 (e:=(k.2.1 == 0)) (b:=true) q) (av (vz 2) (bh (bu aZ k.2.2.2) (av (vz 3) (ai (cH 0 62 (e:=((k.2.2.2.length:Int) == (m.2.2.2.length:Int))) (b:=true) s) (av (vz 4) (ai (co 0 1 67 (F5 w x)) (av (vz 3) (ai (cH 0 71 (e:=((decide (k.2.2.1>0)) == (decide (p>0)))) (b:=false) v) (ai (az 0 1) (ai (az 0 1) (ai (az 0 1) (av [.v 0 1] (ai (cb 0) bL))))))))))))))) (ag 0 (Cq t h))
   ·exact bN 1 (nu 52 [.ptr 7 1,iI k.2.1,.bool (k.2.1 == 0),.bool true,.ptr 7 0,.ref 400007,iI (k.2.2.2.length:Int),iI (m.2.2.2.length:Int),.bool ((k.2.2.2.length:Int) == (m.2.2.2.length:Int)),.bool ((k.2.2.2.length:Int) == (m.2.2.2.length:Int)),.bool false,bf,bf,bf,bf,bf,bf,bf,.bool false,.bool false,bf,bf,bf,.bool false]) [] [] [cd bb 76 Tryz.f3 (pn 2046) 24] (av (vz 3) (ai (cH 0 55 (e:=(k.2.1 == 0)) (b:=true) q) (av (vz 2) (bh (bu aZ k.2.2.2) (av (vz 3) (ai (cH 0 62 (e:=((k.2.2.2.length:Int) == (m.2.2.2.length:Int))) (b:=false) s) (ai (az 0 1) (ai (az 0 1) (ai (az 0 1) (ai (az 0 1) (ai (az 0 1) (ai (az 0 1) (ai (az 0 1) (av (vz 2) (ai (az 0 1) (ai (az 0 1) (ai (az 0 1) (av [.v 0 1] (ai (cb 0) bL))))))))))))))))))) (ag 0 (Cq t h))
  ·exact bN 1 (nu 52 [.ptr 7 1,iI k.2.1,.bool (k.2.1 == 0),.bool false,bf,bf,bf,bf,bf,.bool false,.bool false,bf,bf,bf,bf,bf,bf,bf,.bool false,.bool false,bf,bf,bf,.bool false]) [] [] [cd bb 76 Tryz.f3 (pn 2046) 24] (av (vz 3) (ai (cH 0 55 (e:=(k.2.1 == 0)) (b:=false) q) (ai (az 0 1) (ai (az 0 1) (ai (az 0 1) (ai (az 0 1) (ai (az 0 1) (av (vz 2) (ai (az 0 1) (ai (az 0 1) (ai (az 0 1) (ai (az 0 1) (ai (az 0 1) (ai (az 0 1) (ai (az 0 1) (av (vz 2) (ai (az 0 1) (ai (az 0 1) (ai (az 0 1) (av [.v 0 1] (ai (cb 0) bL))))))))))))))))))))) (ag 0 (Cq t h))
theorem WX(b:∀ [GS],ao K)(m:Nat):PZ M i r v2 j m (rQ K n v2 j m):=by
 letI:GS:=⟨0⟩;have k:=@b ⟨0⟩
 induction m with
 | zero=>intro a c d f g h;cases h
 | succ m e=>intro a c d f g h;have h:AO K n v2 j (rQ K n v2 j m) a c d f g=some r:=h;exact bn (Xx b e h)
theorem agJ(c:∀ [GS],ao K)(h:BD K n q v2 j=some r):bc bb 3 [.sl (lm aI q),.sl (lm d9 v2),.agg ((AK (ak .i64)) j)] (fun v _=>v=.bool r):=by
 letI:GS:=⟨0⟩;have f:=@c ⟨0⟩
 refine bH (cat Tryz.f3 (pn 1)) Tryz.func3 Tryz.ntmps3 fun M i=>(bm ⟨[(0,.sl (lm aI q)),(1,.sl (lm d9 v2)),(2,.agg ((AK (ak .i64)) j))],[],[],[]⟩ ?_);unfold BD at h;refine cf 12 13 7 4 (aj 0 ?_);obtain⟨v4,d,h⟩:=bind_some h;refine aU (ajD c d) (ac ?_);obtain⟨a,h⟩|⟨a,h⟩:=am h
 ·refine ah 15 a (aN 5 ?_);cases h;exact bE
 ·refine ah 15 a (oI 4 5 3 4 (aj 2 ?_));obtain⟨v5,e,h⟩:=bind_some h;refine aU (ad5 f e) (ac ?_);obtain⟨b,h⟩|⟨b,h⟩:=am h
  ·refine ah 19 b (aN 5 ?_);cases h;exact bE
  ·exact ah 19 b (oI 12 13 7 6 (aj 1 (au (bu d9 v2) (ac (gC 2 0 1 (bJ [0,5,7,20,21,22] [5,7] [] (yB 400007 7 0 64 127 (ag 0 (ce (p:=pn 250) n (WX c n h))))))))))
end
end Go.Proofs.YtocgkfoifehcbaaGreat

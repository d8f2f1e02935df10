/- The runs of the functions that RelayoutEquals reaches do what their plain forms say, part 4. Made by a program. -/
import Derived.Test.YtocgkfoifehcbaaGreatReP3
namespace Go.Proofs.YtocgkfoifehcbaaGreat
noncomputable section
open Go.RowKit
set_option maxRecDepth 20000
set_option linter.all false
def BY:=@List.getD_eq_getElem?_getD
def abM:=@List.getElem?_set_self
def adL:=@List.getElem?_set_ne
def agQ:=@decide_eq_true
def al8:=@List.getElem?_eq_none
def ams:=@Option.some.inj
def amv:=@List.nodup_append
structure DB where
 nd:Bool
 b:ab
 y:Value
 kids:List DB
instance:Inhabited DB:=⟨⟨false,dd,.nilIface,[]⟩⟩
def DB.cells(D:DB):ck:=List.set (az ({ D.b with Kids:=[] }:ab)) 58 (.vv D.y)
def DB.Zs(D:DB):D.cells.length=59:=rfl
mutual
def DB.plain:DB→ab
 | ⟨_,b,_,a⟩=>{ b with Kids:=iz a }
def iz:List DB→dO
 | []=>[]
 | d::r=>d.plain::iz r
end
def nD:∀l:List DB,iz l=l.map DB.plain
 | []=>rfl
 | d::r=>by simp[iz,nD r]
mutual
def DB.bl:DB→d7
 | ⟨b,_,y,a⟩=>match b with|true=>(match bw (some y) with|some g=>[g]|none=>[])++bls a|false=>[]
def bls:List DB→d7
 | []=>[]
 | d::r=>d.bl++bls r
end
def FV:∀(l m:List DB),bls (l++m)=bls l++bls m
 | [],m=>rfl
 | d::r,m=>by simp[bls,FV r m]
def lg:∀{l:List DB} {g:Nat},g∈bls l↔∃d∈l,g∈d.bl
 | [],g=>by simp[bls]
 | d::r,g=>by simp[bls,lg (l:=r)]
def DB.Sp(D:DB):D.plain={ D.b with Kids:=D.kids.map DB.plain }:=by cases D;simp only[DB.plain,nD]
def DB.TC(D:DB):aM D.plain=List.set (az ({ D.b with Kids:=[] }:ab)) 58 (.sl (lm aM (D.kids.map DB.plain))):=by
 rw[dV,DB.Sp];rfl
def alw{y x:Value}(h:iw (.vv y) x):x=y:=by
 have:=h (fun _=>False) default bG;cases this;rfl
inductive dT (w:World):DB→Prop
 | leaf (b:ab) (y:Value) (hb:b.Kind≠1) (A:Option Addr) (c:Nat) (hy:y=.slice A 0 c):dT w ⟨false,b,y,[]⟩
 | node (b:ab) (y:Value) (kids:List DB) (xs:eb) (h1:w.ownsRow 0 48 59 y kids.length xs) (h2:∀ x∈xs,x.oneCell'=true)
     (h3:∀(j:Nat) (D:DB),kids[j]?=some D→∀(i:Nat) (c:AV),D.cells[i]?=some c→∃x,xs[j*59+i]?=some x∧iw c x) (h4:∀D∈kids,dT w D):dT w ⟨true,b,y,kids⟩
def QI{b:ab}{y:Value}{a:List DB}{D:DB}(h:D∈a){g:Nat}(c:g∈D.bl):g∈(⟨true,b,y,a⟩:DB).bl:=by
 simp only[DB.bl,ls];exact .inr (lg.2 ⟨D,h,c⟩)
def Bu{b:ab}{y:Value}{a:List DB}{g:Nat}(c:bw (some y)=some g):g∈(⟨true,b,y,a⟩:DB).bl:=by
 simp[DB.bl,c]
def dT.ce{w w':World}{D:DB}(h:dT w D):(∀g∈D.bl,w'.heap[g]?=w.heap[g]?)→dT w' D:=by
 induction h with
 | leaf b y l A c m=>intro _;exact .leaf b y l A c m
 | node b y a xs i j k o n=>intro f;exact .node b y a xs (f8 i (fun g d=>f g (Bu d))) j k (fun D e=>n D e (fun g d=>f g (QI e d)))
def dT.lt{w:World}{D:DB}(h:dT w D):∀g∈D.bl,g<w.heap.size:=by
 induction h with
 | leaf b y d A c p=>intro g a;cases a
 | node b y f xs i m n o k =>
   intro g a;simp only[DB.bl,ls]at a;rcases a with a|a
   · cases d:bw (some y) with
     | none=>rw[d]at a;cases a
     | some l=>rw[d]at a;rw[aio.1 a];exact Lu i d
   · obtain⟨D,j,e⟩:=lg.1 a;exact k D j g e
def dT.rel{w:World}{N:Nat→Prop}{D:DB}(h:dT w D):(∀g∈D.bl,¬ N g)→Rel N w bG (.sl (lm aM (D.kids.map DB.plain))) D.y:=by
 induction h with
 | leaf b y Q A c U=>intro _;subst U;exact .sl0 _ _ _
 | node b y a xs O P G X W =>
   intro I;obtain⟨Y,⟨V,C⟩|⟨g,s,t,K,Q,r,R,J,T,F⟩⟩:=O
   · have:a=[]:=nx C;subst this;show Rel N w bG (.sl []) y;rw[V];exact .sl0 _ _ _
   · have z:bw (some y)=some g:=by rw[K];rfl
     have H:(lm aM (a.map DB.plain)).length=a.length:=by simp
     have q:∀(j:Nat) (e:ck),(lm aM (a.map DB.plain))[j]?=some e→∃D,a[j]?=some D∧e=aM D.plain:=fun j e d=>by
       rw[An,An]at d;cases L:a[j]? with
       | none=>rw[L]at d;cases d
       | some D=>rw[L]at d;injection d with d;exact⟨D,rfl,d.symm⟩
     have k:∀(j:Nat) (e:ck),(lm aM (a.map DB.plain))[j]?=some e→∀(i:Nat) (x:AV),e[i]?=some x→∃v,xs[j*59+i]?=some v∧Rel N w bG x v:=fun j e d i x l=>by
       obtain⟨D,u,rfl⟩:=q j e d;rw[DB.TC]at l;have n:=lp u;have m:(az ({ D.b with Kids:=[] }:ab)).length=59:=rfl;by_cases p:i=58
       · subst p;rw[abM (by rw[m];omega)]at l;injection l with l;subst l
         obtain⟨v,f,E⟩:=G j D u 58 (.vv D.y) (by unfold DB.cells;rw[abM (by rw[m];omega)]);refine⟨v,f,?_⟩;rw[alw E];exact W D n (fun M B=>I M (QI n B))
       · rw[adL (fun e=>p e.symm)]at l;obtain⟨v,f,E⟩:=G j D u i x (by unfold DB.cells;rw[adL (fun e=>p e.symm)];exact l);exact⟨v,f,E _ _ _⟩
     have o:=Rel.sl (N:=N) (w:=w) bG (lm aM (a.map DB.plain)) g 0 s 59 (fun j i=>(xs[j*59+i]?).getD (.bool true)) (fun e d=>by
         obtain⟨b,_,rfl⟩:=Dk.1 d;exact fE b) (ob.1 r).1 (I g (Bu z)) (fun j i=>by
         cases e:xs[j*59+i]? with
         | none=>rfl
         | some v=>exact P v (lp e)) (fun j e d i x l=>by
         obtain⟨v,f,_⟩:=k j e d i x l;rw[ami _ _ _ _ 48 (0,0) r];have:t.toList[j*59+i]?=some v:=by
           rw[←F]at f;rw[yk]at f;split at f
           · exact f
           · cases f
         simp only[f,IF];rw[←afK,DO];exact this) (fun j e d i x l=>by
         obtain⟨v,f,S⟩:=k j e d i x l;simp only[f,IF];exact S) (by rw[H];exact R)
     rw[H]at o;show Rel N w bG _ y;rw[K];exact o
def Iv{N:Nat→Prop}{w:World}{ι:Env}{l:ck}{c:AV}{y x:Value}{q:Nat}(h:Rel N w ι (.agg (l.set q c)) x)(g:q<l.length)(p:((l.set q (.bool true)).all tB)=true)(o:∀v,Rel N w ι c v→v=y)(s:y.oneCell'=true):iw (.agg (l.set q (.vv y))) x:=by
 cases h with
 | agg _ _ vs b m j =>
   intro N' w' ι';refine .agg _ _ vs (by simpa using b) m fun i a v d k=>?_;rw[alU]at b;by_cases f:i=q
   · subst f;rw[abM g]at d;injection d with d;subst d
     have:=o v (j i c v (abM g) k);subst this;exact .vv _ _ s
   · rw[adL (fun e=>f e.symm)]at d;have n:=j i a v (by rw[adL (fun e=>f e.symm)];exact d) k;have r:=ne.1 p a (lp (i:=i) (by rw[adL (fun e=>f e.symm)];exact d));exact Bv r n
def Lr{N:Nat→Prop}{w:World}{ι:Env}{id:Nat}{y:Value}(a:ι id=some y):∀v,Rel N w ι (.ref id) v→v=y:=fun v h=>by
 cases h with
 | ref _ _ A n c h=>rw[a]at h;injection h with h;exact h.symm
def I4{N:Nat→Prop}{w:World}{D:DB}{i:Nat}{c:AV}{x:Value}(a:D.cells[i]?=some c)(h:Rel N w bG c x):iw c x:=by
 have d:(az ({ D.b with Kids:=[] }:ab)).length=59:=rfl;by_cases b:i=58
 · subst b;unfold DB.cells at a;rw[abM (by rw[d];omega)]at a;injection a with a;subst a
   cases h with
   | vv _ _ f=>exact fun _ _ _=>.vv _ _ f
 · have g:tB c=true:=ne.1 (show ((List.set (az ({ D.b with Kids:=[] }:ab)) 58 (.bool true)).all tB)=true from rfl) c (lp (i:=i) (by
     unfold DB.cells at a;rw[adL (fun e=>b e.symm)]at a⊢;exact a))
   exact fun _ _ _=>Bv g h
def DB.fM(D:DB):ck:=List.set (az ({ D.b with Kids:=[] }:ab)) 58 (match D.nd with|true=>.vv D.y|false=>.sl [])
def DB.LQ(D:DB):D.fM.length=59:=rfl
def He{α β:Type}{P:Nat→α→β→Prop}:∀(l:List α) (k:Nat),(∀(j:Nat) (a:α),l[j]?=some a→∃b,P (k+j) a b)→∃m:List β,m.length=l.length∧∀(j:Nat) (a:α),l[j]?=some a→∃b,m[j]?=some b∧P (k+j) a b
 | [],k,_=>⟨[],rfl,fun j a h=>by simp at h⟩
 | a::r,k,h=>by
   obtain⟨b,o⟩:=h 0 a rfl;obtain⟨m,i,n⟩:=He (P:=P) r (k+1) (fun j d c=>by have:=h (j+1) d (by simpa using c);rw[show k+1+j=k+(j+1) by omega];exact this);refine⟨b::m,by simp[i],fun j d c=>?_⟩;cases j with
   | zero=>simp at c;subst c;exact⟨b,rfl,o⟩
   | succ j =>
     obtain⟨e,f,g⟩:=n j d (by simpa using c);exact⟨e,by simpa using f,by rw[show k+(j+1)=k+1+j by omega];exact g⟩
def EE{α β γ:Type}{f:α→γ}{g:β→γ}:∀{l:List α} {m:List β},m.length=l.length→(∀(j:Nat) (a:α),l[j]?=some a→∃b,m[j]?=some b∧g b=f a)→m.map g=l.map f
 | [],[],_,_=>rfl
 | [],_::_,h,_=>by cases h
 | _::_,[],h,_=>by cases h
 | a::r,b::q,h,k=>by
   obtain⟨n,c,e⟩:=k 0 a rfl;simp at c;subst c;rw[rv,rv,e,EE (by simpa using h) (fun j d i=>by simpa using k (j+1) d (by simpa using i))]
def pA:∀l:List DB,bls l=(l.map DB.bl).flatten
 | []=>rfl
 | d::r=>by simp[bls,pA r]
def aka{M:Nat→Prop}{b:aC}{w:World}{ι:Env}{s:AS}(h:HS M b w ι s){id:Nat}{n:List DB}(hr:look id s.r=some ⟨48,59,n.map DB.fM⟩)(g0:id<TG){y:Value}(U:ι id=some y)(W:ab)(S:∀D∈n,(D.nd=true→dT b.w D∧∀g∈D.bl,M g)∧(D.nd=false→D.kids=[]∧D.b.Kind≠1))(J:(bls n).Nodup):
   ∃Ds',iz Ds'=iz n∧bls Ds'=bls n∧dT w ⟨true,W,y,Ds'⟩∧(∀g∈bls Ds',M g)∧(⟨true,W,y,Ds'⟩:DB).bl.Nodup∧(∀g,bw (some y)=some g→b.O g∧g<w.heap.size):=by
 obtain⟨v,xs,Q,e2,e3,e4,e5⟩:=h.arrs id _ hr (by rw[U];rfl);rw[U]at Q;injection Q with Q;subst Q
 have C:∀D:DB,D.nd=false→D.bl=[]:=fun D l=>by cases D;simp only at l;subst l;rfl
 have X:∀D∈n,∀g∈D.bl,M g:=fun D l g m=>by
   cases B:D.nd with
   | true=>exact((S D l).1 B).2 g m
   | false=>rw[C D B]at m;cases m
 have step:∀(j:Nat) (D:DB),n[j]?=some D→∃k:DB,k.plain=D.plain∧k.bl=D.bl∧dT w k∧∀(i:Nat) (c:AV),k.cells[i]?=some c→∃x,xs[(0+j)*59+i]?=some x∧iw c x:=fun j D l=>by
   have u:=lp l;have F:(az ({ D.b with Kids:=[] }:ab)).length=59:=rfl;have get:∀(i:Nat) (c:AV),D.fM[i]?=some c→∃x,xs[j*59+i]?=some x∧Rel (NN M ι) w bG c x:=fun i c d=>by
     obtain⟨x,O,z⟩:=e5 j D.fM (by rw[An,l];rfl) i c d;exact⟨x,O,z.flat (by omega)⟩
   cases B:D.nd with
   | true =>
     have q:D.fM=D.cells:=by unfold DB.fM DB.cells;rw[B]
     refine⟨D,rfl,rfl,((S D u).1 B).1.ce fun g m=>?_,fun i c d=>?_⟩
     · have G:=h.old g (((S D u).1 B).2 g m);exact h.below.block g G.1 G.2
     · obtain⟨x,O,z⟩:=get i c (by rw[q];exact d);exact⟨x,by rw[DO];exact O,I4 d z⟩
   | false =>
     obtain⟨r,t⟩:=(S D u).2 B;have q:D.fM=List.set (az ({ D.b with Kids:=[] }:ab)) 58 (.sl []):=by unfold DB.fM;rw[B]
     obtain⟨x,O,z⟩:=get 58 (.sl []) (by rw[q,abM (by rw[F];omega)]);have f0:∃A c,x=.slice A 0 c:=by
       cases z with
       | sl0 _ A c=>exact⟨A,c,rfl⟩
       | sl _ _ b o c sz h0=>exact⟨_,_,rfl⟩
     obtain⟨A,c0,rfl⟩:=f0;obtain⟨nd,V,yy,kk⟩:=D;simp only at B r t;subst B;subst r;refine⟨⟨false,V,.slice A 0 c0,[]⟩,rfl,rfl,.leaf V _ t A c0 rfl,fun i c d=>?_⟩;rw[DO];by_cases K:i=58
     · subst K;unfold DB.cells at d;rw[abM (by rw[F];omega)]at d;injection d with d;subst d
       exact⟨_,O,fun _ _ _=>.vv _ _ rfl⟩
     · have Z:(DB.fM ⟨false,V,yy,[]⟩)[i]?=some c:=by
         unfold DB.cells at d;unfold DB.fM;rw[adL (fun e=>K e.symm)]at d⊢;exact d
       obtain⟨x,e0,N⟩:=get i c Z;exact⟨x,e0,I4 d N⟩
 obtain⟨Ds',T,H⟩:=He (P:=fun j (D k:DB)=>k.plain=D.plain∧k.bl=D.bl∧dT w k∧∀(i:Nat) (c:AV),k.cells[i]?=some c→∃x,xs[j*59+i]?=some x∧iw c x) n 0 step;have d0:iz Ds'=iz n:=by
   rw[nD,nD];exact EE T fun j a Y=>by obtain⟨b,E,R,_⟩:=H j a Y;exact⟨b,E,R⟩
 have I:bls Ds'=bls n:=by
   rw[pA,pA,EE (f:=DB.bl) (g:=DB.bl) T fun j a Y=>by obtain⟨b,E,_,R,_⟩:=H j a Y;exact⟨b,E,R⟩]
 have p:∀(j:Nat) (k:DB),Ds'[j]?=some k→dT w k∧∀(i:Nat) (c:AV),k.cells[i]?=some c→∃x,xs[j*59+i]?=some x∧iw c x:=fun j k L=>by
   have b0:j<n.length:=by rw[←T];exact(io.1 L).1
   obtain⟨b,E,R,g3,g4,g5⟩:=H j _ (iN b0);rw[L]at E;injection E with E;subst E
   exact⟨g4,fun i c d=>by have:=g5 i c d;rw[DO]at this;exact this⟩
 have hM:∀g∈bls Ds',M g:=fun g m=>by
   rw[I]at m;obtain⟨D,l,a0⟩:=lg.1 m;exact X D l g a0
 refine⟨Ds',d0,I,.node W y Ds' xs (by rw[T];simpa using e2) e4 (fun j D l i c d=>(p j D l).2 i c d) (fun D l=>?_),hM,?_,fun g m=>h.own id g (by rw[U];exact m)⟩
 · obtain⟨j,hj⟩:=amc l;exact(p j D hj).1
 · simp only[DB.bl];rw[←I]at J;cases hb:bw (some y) with
   | none=>exact J
   | some g =>
     refine List.nodup_cons.2 ⟨fun m=>?_,J⟩;exact h.sep (hM g m) (by rw[U];exact hb)
section
variable(M:Nat→Prop)(f:World)(o:aC)(r:ab×Int)(d:ew)(v2:Int)(u:Bool)(j:Int)(t:List DB)(z:Bool)(B:Nat)(A:Int→dO→Option eq)
abbrev E4:Cx:=⟨bb,95,M,o⟩
def QT(r:ab×Int)(w w':World)(v:AV):Prop:=∃D:DB,D.nd=true∧D.plain=r.1∧v=.tup [.agg D.cells,iI r.2]∧dT w' D∧(∀g∈D.bl,w.heap.size≤g∧g<w'.heap.size)∧D.bl.Nodup
abbrev qT:=bodyPost bb Tryz.f41 (fun e w'=>∃x v,e=.returned x∧Below f.heap.size f w'∧QT r f w' v∧iw v x)
abbrev Ja(a:dn)(s:AS):=VE (E4 M o) (qT f r) a .normal s
structure FI(M:Nat→Prop)(f:World)(o:aC)(Ds:List DB):Prop where
 gr:fX (fun _=>False) (nn f) o
 ok:∀D∈Ds,(D.nd=true→dT o.w D∧∀g∈D.bl,M g∧f.heap.size≤g)∧(D.nd=false→D.kids=[]∧D.b.Kind≠1)
 nodup:(bls Ds).Nodup
def FI.bl{M:Nat→Prop}{f:World}{o:aC}{d:List DB}(h:FI M f o d):∀g∈bls d,M g∧f.heap.size≤g:=fun g i=>by
 obtain⟨D,e,a⟩:=lg.1 i;cases c:D.nd with
 | true=>exact((h.ok D e).1 c).2 g a
 | false=>obtain⟨j,b,y,k⟩:=D;simp only at c;subst c;cases a
def FI.add{M:Nat→Prop}{f w:World}{o m:aC}{s:List DB}(h:FI M f o s)(t:∀k,M k→k<o.w.heap.size∧¬ o.G k)(r:o.w.heap.size≤w.heap.size)(u:fX (fun _=>False) o m){D:DB}(n:D.nd=true)(q:dT m.w D)(l:∀g∈D.bl,w.heap.size≤g∧g<m.w.heap.size)(p:D.bl.Nodup):FI (fun c=>M c∨c∈D.bl) f m (s++[D]):=by
 refine⟨h.gr.trans u,fun j d=>?_,?_⟩
 · rcases ls.1 d with d|d
   · refine⟨fun i=>⟨((h.ok j d).1 i).1.ce fun g e=>?_,fun g e=>⟨.inl (((h.ok j d).1 i).2 g e).1,(((h.ok j d).1 i).2 g e).2⟩⟩,(h.ok j d).2⟩;have:=t g (((h.ok j d).1 i).2 g e).1;exact u.block g this.1 this.2 (fun h=>h)
   · rw[aio.1 d];exact⟨fun _=>⟨q,fun g e=>⟨.inr e,aal h.gr.size (aal r (l g e).1)⟩⟩,fun i=>by rw[n]at i;cases i⟩
 · rw[FV];refine amv.2 ⟨h.nodup,by simpa[bls]using p,fun a v b x=>?_⟩;have y:=t a (h.bl a v).1;have z:=l b (by simpa[bls]using x);omega
def FI.txt{M:Nat→Prop}{f:World}{o:aC}{c:List DB}(h:FI M f o c){b:ab}{y:Value}(e:b.Kind≠1):FI M f o (c++[⟨false,b,y,[]⟩]):=by
 refine⟨h.gr,fun d a=>?_,?_⟩
 · rcases ls.1 a with a|a
   · exact h.ok d a
   · rw[aio.1 a];exact⟨fun g=>(by cases g),fun _=>⟨rfl,e⟩⟩
 · rw[FV];have:bls [(⟨false,b,y,[]⟩:DB)]=[]:=rfl;rw[this,Ts];exact h.nodup
def agi{M:Nat→Prop}{f w:World}{o:aC}{ι:Env}{s:AS}{B:List DB}{b:ab}{n:Int}{x:Value}(c:FI M f o B)(m:HS M o w ι s)(Y:look 72 s.r=some ⟨48,59,B.map DB.fM⟩)(Z:Rel (NN M ι) w ι (.tup [.agg (List.set (az ({ b with Kids:=[] }:ab)) 58 (.ref 72)),iI n]) x):
   ∃v,Below f.heap.size f w∧QT ({ b with Kids:=B.map DB.plain },n) f w v∧iw v x:=by
 cases Z with
 | tup _ _ vs t z =>
   match vs,t with
   | [p,q],_ =>
     have L:=z 0 _ p rfl rfl;have A:=z 1 _ q rfl rfl;have r:∃y,ι 72=some y∧y.oneCell'=true:=by
       cases L with
       | agg _ _ us W E I =>
         have u:58<us.length:=by rw[←W];show 58<59;omega
         have e:=I 58 (.ref 72) _ (abM (show 58<59 by omega)) (iN u);have U:=E _ (n3 u);obtain⟨y,r⟩:=fa 72 _ _ _ _ e;exact⟨y,r,by rw[←Lr r _ e];exact U⟩
     obtain⟨y,r,J⟩:=r;obtain⟨Ds',E,Q,R,h4,S,T⟩:=aka m Y (by decide) r ({ b with Kids:=[] }:ab) (fun D F=>⟨fun A=>⟨((c.ok D F).1 A).1,fun g d=>(((c.ok D F).1 A).2 g d).1⟩,(c.ok D F).2⟩) c.nodup;refine⟨.tup [.agg (DB.cells ⟨true,{ b with Kids:=[] },y,Ds'⟩),iI n],⟨m.below.os.trans c.gr.os,m.below.tape.trans c.gr.tape,m.below.output.trans c.gr.output,aal c.gr.size m.below.size,fun k H=>?_⟩,⟨⟨true,{ b with Kids:=[] },y,Ds'⟩,rfl,?_,rfl,R,fun g d=>?_,S⟩,fun N w2 ι2=>.tup _ _ [p,q] rfl fun i a v j l=>?_⟩
     · have X:¬ o.G k:=fun V=>by
         rcases c.gr.O k (.inr V)with e|e
         · exact absurd H (alK.2 e)
         · exact e
       exact(m.below.block k (u7 H c.gr.size) X).trans (c.gr.block k H (fun h=>h) (fun h=>h))
     · show({ b with Kids:=iz Ds' }:ab)=_;rw[E,nD]
     · simp only[DB.bl,ls]at d;rcases d with d|d
       · cases G:bw (some y) with
         | none=>rw[G]at d;cases d
         | some K =>
           rw[G]at d;rw[aio.1 d];obtain⟨O,P⟩:=T K G;rcases c.gr.O K O with C|C
           · exact⟨C,P⟩
           · exact C.elim
       · rw[Q]at d;have e:=c.bl g d;exact⟨e.2,u7 (m.old g e.1).1 m.below.size⟩
     · match i,j,l with
       | 0,j,l =>
         injection j with j;injection l with l;subst j;subst l
         exact Iv L (by show 58<59;omega) rfl (Lr r) J N w2 ι2
       | 1,j,l =>
         injection j with j;injection l with l;subst j;subst l
         exact Bv rfl A
abbrev pf(n:Nat):aq:=.c (cat Tryz.f41 (pn n))
abbrev Kc:dn:=[.b 0,pf 127]
abbrev HM:dn:=kl (E4 M o) (qT f r) Kc (cat Tryz.f41 (pn 504)) B::Kc
def ajT:AS:=⟨[(0,.sl (lm aK d)),(1,iI j),(4,.ptr 4 0),(6,.ptr 6 0),(7,.int .u8 ((gD d v2).Depth)),(8,.bool u),(60,.bool z)],[(4,List.set (az dd) 58 (.nils)),(6,List.set (az ({ dd with Kind:=1,Node:=(aa (10+v2)),Style:=(gD d v2).Style }:ab)) 58 (.ref 72))],[(72,⟨48,59,lm DB.fM t⟩)],[4,6,72]⟩
def Ux:AS:=⟨[(0,.sl (lm aK d)),(1,iI j),(4,.ptr 4 0),(6,.ptr 6 0),(7,.int .u8 ((gD d v2).Depth)),(8,.bool u)],[(4,List.set (az dd) 58 (.nils)),(6,List.set (az ({ dd with Kind:=1,Node:=(aa (10+v2)),Style:=(gD d v2).Style }:ab)) 58 (.ref 72))],[(72,⟨48,59,lm DB.fM t⟩)],[4,6,72]⟩
def ac8:AS:=⟨[(0,.sl (lm aK d)),(1,iI (aa (v2+1))),(4,.ptr 4 0),(6,.ptr 6 0),(7,.int .u8 ((gD d v2).Depth)),(8,.bool u)],[(4,List.set (az dd) 58 (.nils)),(6,List.set (az ({ dd with Kind:=1,Node:=(aa (10+v2)),Style:=(gD d v2).Style }:ab)) 58 (.nils))],[],[4,6]⟩
abbrev H8:Prop:=∀{M:Nat→Prop} {o:aC} {j:Int} {t:(List DB)},FI M f o t→A j (t.map DB.plain)=some r→LP (E4 M o) (qT f r) Kc (cat Tryz.f41 (pn 504)) B (Ux d v2 u j t)
def KD(K:Kn):Prop:=∀{l:ew} {a:Int} {r:ab×Int},K.kV l a=some r→zF bb 41 [.sl (lm aK l),iI a] (QT r)
variable{M f o r d v2 u j t z B A}{K:Kn}{n:Nat}
def OX(U:KD K)(C:H8 f r d v2 u B A)(H:FI M f o t)(h:mS K n d v2 u j (t.map DB.plain) A z=some r):Ja M f o r (pf 2017::pf 1009::HM M f o r B) (ajT d v2 u j t z):=by
 unfold mS at h;obtain⟨a,h⟩|⟨a,h⟩:=am h
 ·refine ah 60 a (cd (ks':=pf 8073::pf 4037 :: .b 1::HM M f o r B) 6 ?_);obtain⟨b,h⟩|⟨b,h⟩:=am h
  ·refine ah 61 b (ay 4 5 2 (ai 2 ?_));obtain⟨Q,G,h⟩:=aw h;refine Nf (U G) (fun v w b2 W V P hG J=>?_);obtain⟨⟨nd,c,i,e⟩,E,O,Y,N,D,L⟩:=W;simp only at E;subst E;subst Y;refine⟨fun g=>g∈(⟨true,c,i,e⟩:DB).bl,D,?_⟩;have I:=H.add V P J rfl N D L;refine ac (ay 2 3 1 (ai 3 (au (gz DB.fM ([⟨true,c,i,e⟩]:List DB) (new:=[DB.cells ⟨true,c,i,e⟩]) rfl) ?_)));obtain⟨p,h⟩:=aD h;rw[nw]at p;refine au (cA 72 72 48 59 DB.fM (rfl) (DB.LQ) (M:=[⟨true,c,i,e⟩]) p) (ac ?_);have F:A Q.2 ((t++[(⟨true,c,i,e⟩:DB)]).map DB.plain)=some r:=by rw[OR,rv,zt,O];exact h
   exact ag 5 (bu (C I F))
  ·refine ah 61 b (fO 2 3 3 (bJ [0,1,4,6,7,8] [4,6] [72] ?_));obtain⟨q,h⟩:=aD h;obtain⟨s,h⟩:=aD h;obtain⟨y,h⟩:=aD h;rw[nw]at y;have F:A (aa (j+1)) ((t++[(⟨false,({ dd with Kind:=3,Style:=(gD d j).Style,Text:=(gD d j).Text }:ab),.nilIface,[]⟩:DB)]).map DB.plain)=some r:=by rw[OR];exact h
   exact bQ 2 (nu 75 [.ptr 6 58,.ref 72,.sl (lm aK d),iI j,.cptr (aK (gD d j)),.cptr (List.drop 5 (aK (gD d j))),.agg (aI ((gD d j).Style)),.sl (lm aK d),iI j,.cptr (aK (gD d j)),.cptr (List.drop 2 (aK (gD d j))),.str ((gD d j).Text),.agg (List.set (az ({ dd with Kind:=3,Style:=(gD d j).Style,Text:=(gD d j).Text }:ab)) 58 (.nils)),.sl (lm DB.fM [(⟨false,({ dd with Kind:=3,Style:=(gD d j).Style,Text:=(gD d j).Text }:ab),.nilIface,[]⟩:DB)])]++nu 90 [.ptr 6 58]) [] [] [f9 89 72 ⟨48,59,lm DB.fM (t++[(⟨false,({ dd with Kind:=3,Style:=(gD d j).Style,Text:=(gD d j).Text }:ab),.nilIface,[]⟩:DB)])⟩,ci bb 95 Tryz.f41 (pn 8074) 16] (av [.v 0 2,.v 0 1,.v 0 2,.v 0 2] (aj (fi (lo:=0) (k:=2) (db ⟨(by kernel_rfl),(de (bD aK aK q (dE) aT) (by kernel_rfl))⟩ (db ⟨(by kernel_rfl),(de (bD aK aK q (dE) aT) (by kernel_rfl))⟩ fI))) (av [.v 0 2,.v 0 2,.v 0 2,.v 0 2] (aj (fi (lo:=0) (k:=2) (db ⟨(by kernel_rfl),(de (bD aK aK s (dE) aT) (by kernel_rfl))⟩ (db ⟨(by kernel_rfl),(de (bD aK aK s (dE) aT) (by kernel_rfl))⟩ fI))) (av [.v 0 2,.v 0 2,.v 0 2] (bi (gz DB.fM ([⟨false,({ dd with Kind:=3,Style:=(gD d j).Style,Text:=(gD d j).Text }:ab),.nilIface,[]⟩]:List DB) (new:=[DB.fM ⟨false,({ dd with Kind:=3,Style:=(gD d j).Style,Text:=(gD d j).Text }:ab),.nilIface,[]⟩]) rfl) (aj (dm (m:=0) (cA 89 72 48 59 DB.fM (rfl) (DB.LQ) (M:=[(⟨false,({ dd with Kind:=3,Style:=(gD d j).Style,Text:=(gD d j).Text }:ab),.nilIface,[]⟩:DB)]) y)) (av [.v 1 1] (aj (cg 1) bS))))))))) (ag 2 (bu (C (H.txt (by show(3:Int)≠1;omega)) F)))
 ·refine ah 60 a (aL 8 ?_);cases h;refine sI (l:=[.agg (List.set (az ({ (⟨1,(aa (10+v2)),(gD d v2).Style,⟨#[]⟩,0,0,[]⟩:ab)with Kids:=[] }:ab)) 58 (.ref 72)),iI j]) (by kernel_rfl) (fun w ι x X Z=>?_);obtain⟨v,R,S,T⟩:=agi H X (by kernel_rfl) Z;exact⟨x,v,rfl,R,S,T⟩
def Y0(e:KD K)(b:H8 f r d v2 u B A)(g:FI M f o t)(h:re K n d v2 u A j (t.map DB.plain)=some r):Ja M f o r (pf 504::HM M f o r B) (Ux d v2 u j t):=by
 unfold re at h;refine bX 4 5 3 2 (ai 2 (au (bz aK d) (aP 5 2 ?_)));obtain⟨a,h⟩|⟨a,h⟩:=am h
 ·refine aG 52 a (aP 7 2 ?_);obtain⟨c,h⟩:=aD h;exact au (bD aK aK c (dE) aT) (ac (ag 0 (OX e b g h)))
 ·exact aG 52 a (ac (ag 0 (OX e b g h)))
def ad1(b:KD K)(m:Nat):H8 f r d v2 u m (nq K n d v2 u m):=by
 induction m with
 | zero=>intro M o j t a h;cases h
 | succ m c=>intro M o j t a h;have h:re K n d v2 u (nq K n d v2 u m) j (t.map DB.plain)=some r:=h;exact bp (Y0 b c a h)
def F3(a:KD K)(b:FI M f o [])(h:o4 K n d v2 u=some r):Ja M f o r [pf 63] (ac8 d v2 u):=by
 unfold o4 at h;exact ir 4 0 3 2 (bJ [0,1,4,6,7,8] [4,6] [] (ze 72 6 58 48 59 (ag 0 (cc (p:=pn 252) n (ad1 a n b h)))))
def abC(e:KD K)(h:o6 K n d v2=some r):zF bb 41 [.sl (lm aK d),iI v2] (QT r):=by
 refine afC (c:=cat Tryz.f41 (pn 1)) Tryz.func41 (by kernel_rfl) _ Tryz.ntmps41 (jt (by kernel_rfl)) fun M f=>?_;have g:FI M f (nn f) []:=⟨.refl _ _,fun D m=>(by cases m),List.nodup_nil⟩;refine bn ⟨[(0,.sl (lm aK d)),(1,iI v2)],[],[],[]⟩ ?_;unfold o6 at h;refine ay 6 7 3 (ai 4 ?_);obtain⟨i,h⟩:=aD h;refine au (bD aK aK i (dE) aT) (ac (ay 2 3 1 (ai 2 ?_)));obtain⟨j,h⟩:=aD h;refine au (bD aK aK j (dE) aT) (ac (ay 6 7 3 (ai 2 (au (bz aK d) (aP 5 2 ?_)))));obtain⟨a,h⟩|⟨a,h⟩:=am h
 ·refine aG 30 a (aP 7 2 ?_);obtain⟨k,h⟩:=aD h;refine au (bD aK aK k (dE) aT) (aP 14 6 ?_);obtain⟨b,h⟩|⟨b,h⟩:=am h
  ·refine aG 39 b (aP 16 2 ?_);obtain⟨l,h⟩:=aD h;exact au (bD aK aK l (dE) aT) (ac (ag 0 (F3 e g h)))
  ·exact aG 39 b (ac (ag 0 (F3 e g h)))
 ·exact aG 30 a (ac (ag 0 (F3 e g h)))
def Uj:∀(m:Nat) {l:ew} {a:Int} {r:ab×Int},kW K n m l a=some r→zF bb 41 [.sl (lm aK l),iI a] (QT r)
 | 0,_,_,_,h=>by cases h
 | m+1,l,a,r,h=>abC (K:={ K with kV:=kW K n m }) (fun h=>Uj m h) h
end
def Wr{f:ab→Option ab}:∀{l m:dO},kS f l=some m→m.length=l.length∧∀(j:Nat) (k:ab),l[j]?=some k→∃a,m[j]?=some a∧(if (k.Kind == 1)=true then f k else some k)=some a
 | [],m,h=>by injection h with h;subst h;exact⟨rfl,fun j k i=>by simp at i⟩
 | k::r,m,h=>by
   obtain⟨a,e,h⟩:=aw h;obtain⟨n,g,h⟩:=aw h;injection h with h;subst h
   obtain⟨c,d⟩:=Wr g;refine⟨by simp[c],fun j q b=>?_⟩;cases j with
   | zero=>simp at b;subst b;exact⟨a,rfl,e⟩
   | succ j=>simpa using d j q (by simpa using b)
def OL:∀{l:List DB} {i j:Nat} {a b:DB} {g:Nat},(bls l).Nodup→i≠j→l[i]?=some a→l[j]?=some b→g∈a.bl→g∈b.bl→False
 | [],i,j,a,b,g,_,_,h,_,_,_=>by simp at h
 | d::r,i,j,a,b,g,q,f,c,k,m,n=>by
   have o:(d.bl++bls r).Nodup:=q;obtain⟨t,s,p⟩:=amv.1 o;cases i with
   | zero =>
     cases j with
     | zero=>exact f rfl
     | succ j =>
       simp at c k;subst c;exact p g m g (lg.2 ⟨b,lp k,n⟩) rfl
   | succ i =>
     cases j with
     | zero =>
       simp at c k;subst k;exact p g n g (lg.2 ⟨a,lp c,m⟩) rfl
     | succ j=>exact OL (i:=i) (j:=j) s (fun e=>f (by omega)) (by simpa using c) (by simpa using k) m n
structure DI(M:Nat→Prop)(w0:World)(y:Value)(b':aC)(Ds X:List DB):Prop where
 gr:fX (fun g=>g∈bls Ds) (mN w0 700 y) b'
 ok:∀D∈X,dT b'.w D
 sub:∀g∈bls Ds,M g
 bl:X.map DB.bl=Ds.map DB.bl
def DI.bls{M:Nat→Prop}{c:World}{y:Value}{b:aC}{a X:List DB}(h:DI M c y b a X):bls X=bls a:=by rw[pA,pA,h.bl]
def DI.put{M:Nat→Prop}{w:World}{y:Value}{l n:aC}{f X:List DB}(h:DI M w y l f X)(z:(Go.Proofs.YtocgkfoifehcbaaGreat.bls f).Nodup){i:Nat}{D m:DB}(c:X[i]?=some D)(x:∀k,M k→k<l.w.heap.size∧¬ l.G k)(v:fX (fun g=>g∈D.bl) l n)(t:dT n.w m)(p:m.bl=D.bl):DI M w y n f (X.set i m):=by
 have d:∀g∈D.bl,g∈Go.Proofs.YtocgkfoifehcbaaGreat.bls f:=fun g q=>by rw[←h.bls];exact lg.2 ⟨D,lp c,q⟩
 refine⟨h.gr.trans (v.mono d),fun u o=>?_,h.sub,?_⟩
 · obtain⟨j,a⟩:=amc o;by_cases e:i=j
   · subst e;rw[abM (io.1 c).1]at a;injection a with a;subst a;exact t
   · rw[adL e]at a;refine (h.ok u (lp a)).ce fun g b=>?_;have r:g∈Go.Proofs.YtocgkfoifehcbaaGreat.bls X:=lg.2 ⟨u,lp a,b⟩;have:=x g (h.sub g (by rw[←h.bls];exact r));exact v.block g this.1 this.2 (fun s=>OL (by rw[h.bls];exact z) e c a s b)
 · rw [←h.bl,List.map_set,p];exact al1 fun k=>by
     rw[al9];split
     · rename_i e;subst e;have:=(io.1 c).1;rw[nw,kc this,An,c];rfl
     · rfl
def Dv{M:Nat→Prop}{f w:World}{o:aC}{ι:Env}{s:AS}{n X:List DB}{b:ab}{y x:Value}(a:DI M f y o n X)(d:HS M o w ι s)(L:look 700 s.r=some ⟨48,59,X.map DB.cells⟩)(C:y.oneCell'=true)(A:Rel (NN M ι) w ι (.agg (List.set (az ({ b with Kids:=[] }:ab)) 58 (.ref 700))) x):
   w.os=f.os∧w.tape=f.tape∧w.output=f.output∧f.heap.size≤w.heap.size∧(∀k,k<f.heap.size→¬ k∈(⟨true,{ b with Kids:=[] },y,n⟩:DB).bl→w.heap[k]?=f.heap[k]?)∧dT w ⟨true,{ b with Kids:=[] },y,X⟩∧iw (.agg (DB.cells ⟨true,{ b with Kids:=[] },y,X⟩)) x:=by
 have B:ι 700=some y:=(d.pin 700 y (by rw[a.gr.pv];simp[mN])).1;refine⟨d.below.os.trans a.gr.os,d.below.tape.trans a.gr.tape,d.below.output.trans a.gr.output,aal a.gr.size d.below.size,fun k r F=>?_,?_,?_⟩
 · have h:¬ (mN f 700 y).G k:=fun q=>F (Bu q);have t:¬ k∈bls n:=fun J=>F (by simp only [DB.bl,ls]; exact .inr J);have u:¬ o.G k:=fun q=>by
     rcases a.gr.O k (.inr q)with p|p
     · exact absurd r (alK.2 p)
     · exact h p
   exact(d.below.block k (u7 r a.gr.size) u).trans (a.gr.block k r h t)
 · obtain⟨v,xs,l,G,N,H,I⟩:=d.arrs 700 _ L (by rw[B];rfl);rw[B]at l;injection l with l;subst l
   refine .node _ y X xs (by simpa using G) H (fun j D m i c E=>?_) (fun D m=>(a.ok D m).ce fun g K=>?_)
   · obtain⟨x,A,z⟩:=I j D.cells (by rw[An,m];rfl) i c E;exact⟨x,A,I4 E (z.flat (by decide))⟩
   · have e:=d.old g (a.sub g (by rw[←a.bls];exact lg.2 ⟨D,m,K⟩));exact d.below.block g e.1 e.2
 · exact Iv A (by show 58<59;omega) rfl (Lr B) C
section
variable(M:Nat→Prop)(c:World)(d:aC)(l:ew)(b:ab)(y:Value)(a Ds' X:List DB)(v5:Bool)(v6:Int)(f:DB)(o:Nat)
abbrev Ha:Cx:=⟨bb,52,M,d⟩
abbrev qR:=bodyPost bb Tryz.f42 (fun e w'=>∃x,e=.returned x∧w'.os=c.os∧w'.tape=c.tape∧w'.output=c.output∧c.heap.size≤w'.heap.size∧(∀k,k<c.heap.size→¬ k∈(⟨true,{ b with Kids:=[] },y,a⟩:DB).bl→w'.heap[k]?=c.heap[k]?)∧dT w' f∧iw (.agg (DB.cells f)) x)
abbrev VgR(e:dn)(s:AS):=VE (Ha M d) (qR c b y a f) e .normal s
abbrev iG(n:Nat):aq:=.c (cat Tryz.f42 (pn n))
abbrev RR:dn:=[.b 0,iG 15]
abbrev TR:dn:=kl (Ha M d) (qR c b y a f) RR (cat Tryz.f42 (pn 116)) o::RR
def sR:AS:=⟨[(1,.sl (lm aK l)),(2,.ptr 2 0),(4,.ptr 4 0),(5,.bool v5),(6,iI v6)],[(2,List.set (az ({ b with Kids:=[] }:ab)) 58 (.ref 700)),(4,List.set (az dd) 58 (.nils))],[(700,⟨48,59,lm DB.cells X⟩)],[2,4,700,1000700,700]⟩
variable{M c d l b y a Ds' X v5 v6 f o}
def ahk(s:DI M c y d a X)(e:y.oneCell'=true){z:ab}(t:f=⟨true,{ z with Kids:=[] },y,X⟩)(h:jE l b [] v5=some z):VgR M c d b y a f [iG 15] (sR l b X v5 v6):=by
 refine cd (ks':=[iG 30,iG 31]) 1 (ai 4 (ac ?_));cases v5 with
 | false =>
   unfold jE at h;have p:=ams h;subst p;subst t;refine aL 8 ?_;refine sI (l:=[.agg (List.set (az ({ b with Kids:=[] }:ab)) 58 (.ref 700))]) (by kernel_rfl) (fun w ι x q r=>?_);obtain⟨g,i,j,k,m,n,o⟩:=Dv s q (by kernel_rfl) e r;exact⟨x,rfl,g,i,j,k,m,n,o⟩
 | true =>
   unfold jE at h;refine cd (ks':=[iG 124,iG 125,iG 63]) 2 (ai 4 ?_);obtain⟨u,h⟩|⟨u,h⟩:=am h
   · refine aG 39 u ?_;refine aP 8 4 ?_;obtain⟨A,h⟩:=aD h;refine au (bD aK aK A (dE) aT) (aP 13 4 ?_);obtain⟨v,h⟩|⟨v,h⟩:=am h
     · refine aG 48 v ?_;refine ac ?_;have p:=ams h;subst p;subst t;refine aL 5 ?_;refine sI (l:=[.agg (List.set (az ({ ({ b with Kind:=6 }:ab)with Kids:=[] }:ab)) 58 (.ref 700))]) (by kernel_rfl) (fun w ι x q r=>?_);obtain⟨g,i,j,k,m,n,o⟩:=Dv (b:={ b with Kind:=6 }) s q (by kernel_rfl) e r;exact⟨x,rfl,g,i,j,k,m,n,o⟩
     · refine aG 48 v ?_;refine ac ?_;have p:=ams h;subst p;subst t;refine aL 5 ?_;refine sI (l:=[.agg (List.set (az ({ b with Kids:=[] }:ab)) 58 (.ref 700))]) (by kernel_rfl) (fun w ι x q r=>?_);obtain⟨g,i,j,k,m,n,o⟩:=Dv s q (by kernel_rfl) e r;exact⟨x,rfl,g,i,j,k,m,n,o⟩
   · refine aG 39 u ?_;refine ac ?_;have p:=ams h;subst p;subst t;refine aL 5 ?_;refine sI (l:=[.agg (List.set (az ({ b with Kids:=[] }:ab)) 58 (.ref 700))]) (by kernel_rfl) (fun w ι x q r=>?_);obtain⟨g,i,j,k,m,n,o⟩:=Dv s q (by kernel_rfl) e r;exact⟨x,rfl,g,i,j,k,m,n,o⟩
def DA(l:ew)(D a:DB):Prop:=a.bl=D.bl∧((D.b.Kind == 1)=true→pd bb 42 [.agg D.cells,.sl (lm aK l)] (fun g=>g∈D.bl) (fun w=>dT w D) (.agg a.cells) (fun w=>dT w a))∧((D.b.Kind == 1)=false→a=D)
structure Mx(a Ds' X:List DB)(i:Nat)(v5:Bool):Prop where
 len:X.length=a.length
 le:i≤a.length
 lo:∀j,j<i→X[j]?=Ds'[j]?
 hi:∀j,i≤j→X[j]?=a[j]?
 blocks:v5=(a.take i).any fun D=>D.b.Kind == 1
def ahQ(hn:(bls a).Nodup)(U:Ds'.length=a.length)(P:∀(j:Nat) (D t:DB),a[j]?=some D→Ds'[j]?=some t→DA l D t)(F:a.length≤maxLen)(R:y.oneCell'=true){S:ab}(hz:f=⟨true,{ S with Kids:=[] },y,Ds'⟩)(h:jE l b [] (a.any fun D=>D.b.Kind == 1)=some S):
   ∀(m:Nat) {M:Nat→Prop} {d:aC} {X:List DB} {i:Nat} {v5:Bool} {v6:Int},v6=(i:Int)→Mx a Ds' X i v5→DI M c y d a X→a.length<m+i→LP (Ha M d) (qR c b y a f) RR (cat Tryz.f42 (pn 116)) m (sR l b X v5 v6):=by
 intro m
 induction m with
 | zero=>intro M d X i v5 v6 _ n _ hm;have:=n.le;omega
 | succ m V =>
   intro M d X i v5 v6 T n B hm;refine bp (cd (ks':=iG 464::iG 465::iG 233::TR M c d b y a f m) 2 (ai 3 (au (bz DB.cells X) (aP 5 1 ?_))));by_cases q:i<a.length
   · have u:decide (v6<(X.length:Int))=true:=agQ (by rw [n.len]; omega);refine aG 12 u (ac ?_);have r:=n.hi i (jf _);have p:a[i]?=some (a[i]'q):=iN q;have o:Ds'[i]?=some (Ds'[i]'(by omega)):=iN _;generalize a[i]'q=D at p;generalize Ds'[i]'(by omega:i<Ds'.length)=t at o;rw [p] at r;have s:X.getD v6.toNat default=D:=by
       rw[T,BY,Int.toNat_natCast,r];rfl
     have k:aN v6 X.length=true:=by
       unfold aN;rw[h8];exact⟨agQ (by omega),agQ (by rw[n.len];omega)⟩
     have I:aa (v6+1)=((i+1:Nat):Int):=by
       rw[T];unfold maxLen at F;have:(0:Int)≤(i:Int)+1∧(i:Int)+1<9223372036854775808:=by omega
       unfold aa;rw[amg];omega
     obtain⟨t1,t2,t3⟩:=P i D t p o;refine cd (ks':=iG 1864::iG 1865 :: .b 1::iG 467::TR M c d b y a f m) 5 (ai 3 (au (cp 700 59 DB.cells k) (aP 5 1 (au (bK 3 0 DB.cells DB.cells (bE k).2 aT) (ac ?_)))));cases A:(D.b.Kind == 1) with
     | true =>
       have v:((X.getD v6.toNat default).b.Kind == 1)=true:=by rw[s];exact A
       refine ah 21 v (cd (ks':=iG 7461 :: .b 1::iG 467::TR M c d b y a f m) 3 (bJ [1,2,4,5,6] [2,4] [700] ?_));have H:pd bb 42 [.agg (X.getD v6.toNat default).cells,.sl (lm aK l)] (fun g=>g∈D.bl) (fun w=>dT w D) (.agg t.cells) (fun w=>dT w t):=by rw[s];exact t2 A
       have G:∀g∈D.bl,g∈bls a:=fun g C=>lg.2 ⟨D,lp p,C⟩;refine agz 9 31 [(22,.ptr 2 58),(23,.ref 700),(24,iI v6),(25,.ptr 2 58),(26,.ref 700),(27,iI v6),(28,.eptr 700 59 v6.toNat 0),(29,.agg (X.getD v6.toNat default).cells),(30,.sl (lm aK l))] H (fun g C=>B.sub g (G g C))
         (fun w _ I=>(B.ok D (lp r)).ce I)
         (av (vz 6) (bi (cp 700 59 DB.cells (L:=X) (i:=v6) k) (bi (bK 48 0 DB.cells DB.cells (bE k).2 aT) (av [.v 0 1] yF))))
         (av (vz 6) (bi (cp 700 59 DB.cells (L:=X) (i:=v6) k) (bi (bK 48 0 DB.cells DB.cells (bE k).2 aT) (av [.v 0 1] yF))))
         (fun W C Z Y=>?_)
       have K:=B.put hn r Y C Z t1;refine au (cp 700 59 DB.cells k) (au (dF 700 48 59 0 DB.cells DB.cells t (bE k).2 aT) (ac ?_));have x:Mx a Ds' (List.set X v6.toNat t) (i+1) true:=by
         have z:v6.toNat=i:=by omega
         rw[z];refine⟨by rw[alU];exact n.len,q,fun j E=>?_,fun j E=>?_,?_⟩
         · rw[al9];split
           · rename_i e;subst e;rw[kc (by rw[n.len];exact q),o]
           · exact n.lo j (by omega)
         · rw[adL (by omega)];exact n.hi j (by omega)
         · symm;rw[aeq];exact⟨D,lp (i:=i) (by rw[yk,kc (by omega)];exact p),A⟩
       have N:DI M c y W a (List.set X v6.toNat t):=by
         have z:v6.toNat=i:=by omega
         rw[z];exact K
       exact ag 2 (bu (V (v6:=aa (v6+1)) I x N (by omega)))
     | false =>
       have v:((X.getD v6.toNat default).b.Kind == 1)=false:=by rw[s];exact A
       refine ah 21 v ?_;have x:Mx a Ds' X (i+1) v5:=by
         refine⟨n.len,q,fun j E=>?_,fun j E=>n.hi j (by omega),?_⟩
         · by_cases e:j=i
           · subst e;rw[r,o,t3 A]
           · exact n.lo j (by omega)
         · rw[n.blocks,List.take_succ,p,List.any_append];simp[A]
       exact ag 4 (bu (V (v6:=aa (v6+1)) I x B (by omega)))
   · have u:decide (v6<(X.length:Int))=false:=decide_eq_false (by rw[n.len];omega);refine aG 12 u (ac ?_);have O:i=a.length:=by have:=n.le;omega
     have J:X=Ds':=al1 fun j=>by
       by_cases E:j<i
       · exact n.lo j E
       · rw[n.hi j (by omega),al8 (by omega),al8 (by omega)]
     have Q:v5=a.any fun D=>D.b.Kind == 1:=by rw[n.blocks,O,alP]
     subst J;rw[←Q]at h;exact ag 5 (ahk (v6:=v6) B R hz h)
end
def ahI{l:ew}{b a:ab}{q f:dO}{c:Bool}(h:jE l { b with Kids:=q } f c=some a):jE l b [] c=some { a with Kids:=[] }∧a.Kids=f:=by
 unfold jE at h⊢;cases c with
 | false=>injection h with h;subst h;exact⟨rfl,rfl⟩
 | true =>
   simp only at h⊢;split at h
   · rename_i d;rw[kc d];obtain⟨g,h⟩:=aD h;rw[g];simp only[aE];split at h
     · rename_i e;rw[kc e];injection h with h;subst h;exact⟨rfl,rfl⟩
     · rename_i e;rw[kb e];injection h with h;subst h;exact⟨rfl,rfl⟩
   · rename_i d;rw[kb d];injection h with h;subst h;exact⟨rfl,rfl⟩
def TD(D:DB):D.plain.Kind=D.b.Kind:=by rw[DB.Sp]
def T2{N:Nat→Prop}{w:World}{ι:Env}{l:ck}{c d:AV}{x:Value}{q:Nat}(h:Rel N w ι (.agg (l.set q c)) x)(j:q<l.length)(o:∀v,Rel N w ι c v→Rel N w ι d v):Rel N w ι (.agg (l.set q d)) x:=by
 cases h with
 | agg _ _ vs f n k =>
   refine .agg _ _ vs (by simpa using f) n fun i a v b m=>?_;by_cases g:i=q
   · subst g;rw[abM j]at b;injection b with b;subst b
     exact o v (k i c v (abM j) m)
   · rw[adL (fun e=>g e.symm)]at b;exact k i a v (by rw[adL (fun e=>g e.symm)];exact b) m
def Un:∀{l:List DB},(bls l).Nodup→∀{D:DB},D∈l→D.bl.Nodup
 | [],_,D,a=>by cases a
 | d::r,h,D,a=>by
   have b:(d.bl++bls r).Nodup:=h;obtain⟨c,e,_⟩:=amv.1 b;rcases qk.1 a with rfl|a
   · exact c
   · exact Un e a
section
def Oa:∀(m:Nat) {l:ew} {D:DB} {F:ab},iB l m D.plain=some F→D.nd=true→(∃w,dT w D)→D.bl.Nodup →
   ∃o:DB,o.plain=F∧o.bl=D.bl∧pd bb 42 [.agg D.cells,.sl (lm aK l)] (fun g=>g∈D.bl) (fun w=>dT w D) (.agg o.cells) (fun w=>dT w o)
 | 0,_,_,_,h,_,_,_=>by cases h
 | m+1,l,⟨nd,b,y,d⟩,F,h,S,⟨w1,p0⟩,hn=>by
   simp only at S;subst S;have h:(kS (iB l m) (iz d)).bind (fun X=>jE l { b with Kids:=iz d } X ((iz d).any fun k=>k.Kind == 1))=some F:=h;obtain⟨X,l0,h⟩:=aw h;obtain⟨K,Z⟩:=ahI h;obtain⟨g1,g2⟩:=Wr l0;have L:((iz d).any fun k=>k.Kind == 1)=d.any fun D=>D.b.Kind == 1:=by
     rw[nD,List.any_map];congr 1;funext D;show(D.plain.Kind == 1)=_;rw[TD]
   rw[L]at K;cases p0 with
   | node _ _ _ xs I q0 i0 B =>
   have G:(bls d).Nodup:=by
     have:(⟨true,b,y,d⟩:DB).bl.Nodup:=hn;simp only[DB.bl]at this;exact(amv.1 this).2.1
   have T:∀g∈bls d,bw (some y)≠some g:=fun g J e=>by
     have h9:(⟨true,b,y,d⟩:DB).bl.Nodup:=hn;simp only[DB.bl,e]at h9;exact(List.nodup_cons.1 h9).1 J
   have step:∀(j:Nat) (D:DB),d[j]?=some D→∃o:DB,DA l D o∧X[j]?=some o.plain:=fun j D s=>by
     obtain⟨k',r,t⟩:=g2 j D.plain (by rw[nD,An,s];rfl);rw[TD]at t;have C:=lp s;cases U:(D.b.Kind == 1) with
     | true =>
       rw[U]at t;have g0:D.nd=true:=by
         have hk:=B D C;cases hk with
         | leaf b0 y0 h0 A0 c0 r0=>exact absurd (by simpa using U) h0
         | node b0 y0 k0 x0=>rfl
       have f0:D.bl.Nodup:=Un G C;obtain⟨o,q1,q2,q3⟩:=Oa m (by simpa using t) g0 ⟨w1,B D C⟩ f0;exact⟨o,⟨q2,fun _=>q3,fun hf=>by rw[U]at hf;cases hf⟩,by rw[r,q1]⟩
     | false =>
       rw[U]at t;have Y:D.plain=k':=by simpa using t
       exact⟨D,⟨rfl,fun ht=>(by rw[U]at ht;cases ht),fun _=>rfl⟩,by rw[r,Y]⟩
   obtain⟨Ds',Q,u⟩:=He (P:=fun j (D o:DB)=>DA l D o∧X[j]?=some o.plain) d 0 (fun j D s=>by rw[DO];exact step j D s);have o0:∀(j:Nat) (D o:DB),d[j]?=some D→Ds'[j]?=some o→DA l D o:=fun j D o s e0=>by
     obtain⟨D2,r,t,_⟩:=u j D s;rw[e0]at r;injection r with r;subst r;exact t
   have m0:iz Ds'=X:=by
     rw[nD];refine al1 fun j=>?_;rw[An];by_cases hj:j<d.length
     · obtain⟨D2,r,_,Y⟩:=u j _ (iN hj);rw[DO]at Y;rw[r,Y];rfl
     · rw[al8 (by omega),al8 (by rw[g1,nD,nw];omega)];rfl
   have O:bls Ds'=bls d:=by
     rw[pA,pA,EE (f:=DB.bl) (g:=DB.bl) Q fun j a z=>by obtain⟨D2,r,t,_⟩:=u j a z;exact⟨D2,r,t.1⟩]
   have W:∃A n c,y=.slice A n c:=by
     rcases I.2 with⟨e,_⟩|⟨g,a0,d0,e,_⟩
     · exact⟨_,_,_,e⟩
     · exact⟨_,_,_,e⟩
   have R:d.length≤maxLen:=by
     rcases I.2 with⟨_,e⟩|⟨g,a0,d0,_,_,_,r,t,_⟩
     · rw[e];exact tl _
     · exact aal r t
   have V:y.oneCell'=true:=by obtain⟨A,n,c,rfl⟩:=W;rfl
   have H:(az ({ b with Kids:=[] }:ab)).length=59:=rfl;refine⟨⟨true,{ F with Kids:=[] },y,Ds'⟩,?_,?_,?_⟩
   · show({ F with Kids:=iz Ds' }:ab)=F;rw[m0];subst Z;cases F;rfl
   · simp only[DB.bl,O]
   refine afB (id0:=700) (v0:=y) (ar:=⟨48,59,d.map DB.cells⟩) (args':=[.agg (List.set (az ({ b with Kids:=[] }:ab)) 58 (.ref 700)),.sl (lm aK l)]) (c:=cat Tryz.f42 (pn 1)) Tryz.func42 (by kernel_rfl) _ Tryz.ntmps42 (jt (by kernel_rfl)) rfl (fun g J=>Bu J) (fun w hw=>?_) (fun N w i a b9 x z E hr=>?_) (fun M w hM hw=>?_)
   · cases hw with
     | node _ _ _ xs K Z h3 h4 =>
       refine⟨xs,by simpa using K,fun e he=>?_,Z,fun j e he i c hc=>?_⟩
       · obtain⟨D,_,rfl⟩:=Dk.1 he;exact DB.Zs D
       · have q:(d.map DB.cells)[j]?=some e:=he;rw[An]at q;cases s:d[j]? with
         | none=>rw[s]at q;cases q
         | some D=>rw[s]at q;injection q with q;subst q;exact h3 j D s i c hc
   · match i,z,E with
     | 0,z,E =>
       injection z with z;injection E with E;subst z;subst E
       have hp:=Iv (y:=y) (show Rel N w bG (.agg (List.set (az ({ b with Kids:=[] }:ab)) 58 (.vv y))) x from hr) (by rw[H];omega) rfl (fun v hv=>by cases hv;rfl) V;refine T2 (hp N w (ext bG 700 y)) (by rw[H];omega) (fun v hv=>?_);cases hv;obtain⟨A,n,c,rfl⟩:=W;exact .ref _ _ _ _ _ (cN _ _ _)
     | 1,z,E =>
       injection z with z;injection E with E;subst z;subst E
       exact hr.pure rfl _
   · have hf:DI M w y (mN w 700 y) d d:=⟨.refl _ _,fun D s=>(by cases hw with|node _ _ _ xs K Z h3 h4=>exact h4 D s),fun g J=>hM g (by simp only[DB.bl,ls];exact .inr J) (T g J),rfl⟩;exact bn ⟨[(0,.agg (List.set (az ({ b with Kids:=[] }:ab)) 58 (.ref 700))),(1,.sl (lm aK l))],[],[(700,⟨48,59,d.map DB.cells⟩)],[700,1000700]⟩ (ag 8 (cc (p:=pn 58) (d.length+1) (ahQ (Ds':=Ds') (b:=b) (v6:=0) (v5:=false) (i:=0) G Q o0 R V rfl K (d.length+1) rfl ⟨rfl,tl _,fun j hj=>absurd hj (Nat.not_lt_zero _),fun j _=>rfl,rfl⟩ hf (by omega))))
section
variable(M:Nat→Prop)(c:aC)(r:ab)(a X:ew)(v4:Int)(d:Nat)
abbrev JX:Cx:=⟨bb,36,M,c⟩
abbrev qS:=bodyPost bb Tryz.f13 (bR M c (fun v _=>v=.agg (az r)))
abbrev Zw(a:dn)(s:AS):=VE (JX M c) (qS M c r) a .normal s
abbrev fF(n:Nat):aq:=.c (cat Tryz.f13 (pn n))
abbrev RS:dn:=[.b 0,fF 15]
abbrev TS:dn:=kl (JX M c) (qS M c r) RS (cat Tryz.f13 (pn 116)) d::RS
def sS:AS:=⟨[(0,.sl (lm aK a)),(2,.ptr 2 0),(3,.ref 300),(4,iI v4)],[(2,List.set (az dd) 58 (.nils))],[(300,⟨37,58,lm aK X⟩)],[2,300]⟩
variable{M c r a X v4 d}{K:Kn}{n:Nat}
def Xk{t:ab×Int}(hX:X=a.map fB)(S:kW K n n X 0=some t)(L:iB X n t.1=some r):Zw M c r [fF 15] (sS a X v4):=by
 refine cd (ks':=[fF 30,fF 31]) 1 (gG 300 (ai 1 ?_));refine Nf (Uj n S) (fun v w b2 W P H hG E=>?_);obtain⟨⟨nd,A,C,B⟩,q,G,I,s,o,F⟩:=W;simp only at q;subst q;subst I;rw[←G]at L;obtain⟨⟨j,e,i,f⟩,q1,Q,q3⟩:=Oa n L rfl ⟨_,s⟩ F;refine⟨fun g=>g∈(⟨true,A,C,B⟩:DB).bl,o,?_⟩;refine ac (cd (ks':=[fF 62,fF 63]) 1 (ai 2 ?_));refine alA q3 (fun k y=>.inr y) (fun w _ hw=>s.ce hw) (fun R hg Y V=>?_);refine ac (aL 1 ?_);refine sI (l:=[.agg (DB.cells ⟨j,e,i,f⟩)]) (by kernel_rfl) (fun w' ι x z hx=>?_);have p:fX (fun g=>g∈(⟨true,A,C,B⟩:DB).bl) c R:=(E.mono (fun _ h=>h.elim)).trans hg;have O:∀g,g∈(⟨true,A,C,B⟩:DB).bl→c.w.heap.size≤g:=fun g d=>aal H (o g d).1;refine⟨x,.agg (az r),_,ι,rfl,rfl,z.af4 p O (fun k y=>⟨.inl y,P k y⟩),?_⟩;have u:dT w' ⟨j,e,i,f⟩:=Y.ce fun g d=>by
   rw[Q]at d;have:=z.old g (.inr d);exact z.below.block g this.1 this.2
 have D:=u.rel (N:=NN M ι) (fun g d m=>by
   rw[Q]at d;rcases m with m|⟨id,m⟩
   · have T:=(P g m).1;have U:=O g d;exact absurd T (alK.2 U)
   · exact z.sep (.inr d) m)
 have J:Rel (NN M ι) w' ι (.agg (DB.cells ⟨j,e,i,f⟩)) x:=hx.mono (jf _) (fun b _ Z=>Z.elim (fun h=>.inl (.inl h)) .inr) (fun _ _ _=>rfl) (fun _ _ h=>h);rw[←dV,← q1,DB.TC];exact T2 J (by show 58<59;omega) (fun v I=>by cases I;exact D.pure rfl _)
def afz{t:ab×Int}(d:fits a.length 480=true)(q:kW K n n (a.map fB) 0=some t)(s:iB (a.map fB) n t.1=some r):
   ∀(m:Nat) {X:ew} {i:Nat} {v4:Int},v4=(i:Int)→X=(a.take i).map fB→i≤a.length→a.length<m+i→LP (JX M c) (qS M c r) RS (cat Tryz.f13 (pn 116)) m (sS a X v4):=by
 have o:a.length≤maxLen:=by
   unfold fits at d;simp only[h8,qv]at d;exact d.1
 intro m
 induction m with
 | zero=>intro X i v4 _ _ q s;omega
 | succ m x =>
   intro X i v4 v j y A;refine bp (cd (ks':=fF 464::fF 465::fF 233::TS M c r m) 2 (ai 2 (au (bz aK a) (aP 4 1 ?_))));by_cases f:i<a.length
   · have g:decide (v4<(a.length:Int))=true:=agQ (by omega);refine aG 11 g (ac ?_);have l:aN v4 a.length=true:=by
       unfold aN;rw[h8];exact⟨agQ (by omega),agQ (by omega)⟩
     have w:aa (v4+1)=((i+1:Nat):Int):=by
       rw[v];unfold maxLen at o;unfold aa;rw[amg];omega
     have k:a.getD v4.toNat default=a[i]:=by
       rw[v,BY,Int.toNat_natCast,iN f];rfl
     refine cd (ks':=fF 1864::fF 1865 :: .b 1::fF 467::TS M c r m) 5 (ai 2 (au (bD aK aK l (dE) aT) (ac (cd (ks':=fF 7461::fF 3731 :: .b 1::fF 467::TS M c r m) 3 ?_))));have e:X++[fB (a.getD v4.toNat default)]=(a.take (i+1)).map fB:=by
       rw[j,k,List.take_succ,iN f,OR];rfl
     have b:fits (X.length+[fB (a.getD v4.toNat default)].length) 480=true:=by
       have z:X.length=i:=by rw[j,nw,IN];omega
       unfold fits at d⊢;simp only[h8,qv,List.length_singleton]at d⊢;omega
     cases p:((a.getD v4.toNat default).Style.Position == 2) with
     | true =>
       refine ah 21 p (cd (ks':=fF 3731 :: .b 1::fF 467::TS M c r m) 2 (ai 2 ?_));have h:fB (a.getD v4.toNat default)={ a.getD v4.toNat default with Style:={ (a.getD v4.toNat default).Style with Position:=0 } }:=by unfold fB;rw[kc p]
       rw[h]at e b;exact au (gz aK [{ a.getD v4.toNat default with Style:={ (a.getD v4.toNat default).Style with Position:=0 } }] (new:=[aK { a.getD v4.toNat default with Style:={ (a.getD v4.toNat default).Style with Position:=0 } }]) rfl) (au (cA 27 300 37 58 aK (rfl) (dE) b) (ac (ag 2 (bu (x (v4:=aa (v4+1)) w e f (by omega))))))
     | false =>
       refine ah 21 p (cd (ks':=fF 3731 :: .b 1::fF 467::TS M c r m) 2 (ai 2 ?_));have h:fB (a.getD v4.toNat default)=a.getD v4.toNat default:=by unfold fB;rw[kb (by rw[p];simp)]
       rw[h]at e b;exact au (gz aK [a.getD v4.toNat default] (new:=[aK (a.getD v4.toNat default)]) rfl) (au (cA 27 300 37 58 aK (rfl) (dE) b) (ac (ag 2 (bu (x (v4:=aa (v4+1)) w e f (by omega))))))
   · have g:decide (v4<(a.length:Int))=false:=decide_eq_false (by omega);refine aG 11 g (ac ?_);have u:i=a.length:=by omega
     rw[u,alP]at j;rw[←j]at q s;exact ag 5 (Xk (v4:=v4) j q s)
def aft(h:uY K n a=some r):ba bb 13 [.sl (lm aK a)] (fun v _=>v=.agg (az r)):=by
 unfold uY at h;obtain⟨b,h⟩:=aD h;obtain⟨t,d,e⟩:=aw h;exact bI (cat Tryz.f13 (pn 1)) Tryz.func13 Tryz.ntmps13 fun M c=>(bn ⟨[(0,.sl (lm aK a))],[],[],[]⟩ (cd (ks':=[fF 58,.b 0,fF 15]) 8 (bJ [0,2,3,4] [2] [] (fb 300 3 37 58 (ag 0 (cc (p:=pn 58) (a.length+1) (afz b d e (a.length+1) (X:=[]) (i:=0) rfl rfl (tl _) (by omega))))))))
end
end
def YW[GS]{K:Kn}{n:Nat}{a:ew}{r:ab}(b:ao K)(h:uY K n a=some r):ba bb 13 [.sl (lm aK a)] (fun v _=>v=.agg (az r)):=aft h
section
variable[GS](M:Nat→Prop)(b:aC)(r a:ew)(v2:dL)(c:ew)  
abbrev oy(n:Nat):aq:=.c (cat Tryz.f14 (pn n))
abbrev XZ:Cx:=⟨bb,105,M,b⟩
abbrev q14:=bodyPost bb Tryz.f14 (bR M b (fun v s=>v=.ref 7∧look 7 s.r=some ⟨37,58,lm aK r⟩))
abbrev aie(a:dn)(s:AS):=VE (XZ M b) (q14 M b r) a .normal s
def ac1:AS:=⟨[(5,.ref 7)],[],[(7,⟨37,58,lm aK c⟩)],[7]⟩
variable{M b r a v2 c}{K:Kn}{n:Nat}
def Qj(a:ao K)(h:yH K n c=some r):aie M b r [.b 0,oy 63] (ac1 c):=by
 unfold yH at h;refine aL 4 ?_;cases h;exact eO
def agK(Q:ao K)(h:xE K n a v2=some r):ba bb 14 [.sl (lm aK a),.agg (dw v2)] (fun v s=>v=.ref 7∧look 7 s.r=some ⟨37,58,lm aK r⟩):=by
 refine bI (cat Tryz.f14 (pn 1)) Tryz.func14 Tryz.ntmps14 fun M b=>(bn ⟨[(0,.sl (lm aK a)),(1,.agg (dw v2))],[],[],[]⟩ ?_);unfold xE at h;refine ay 6 7 3 (ai 0 (BU 22 7 (e:=37) (sz:=58) (aP 2 1 ?_)));obtain⟨R,h⟩:=aD h;refine au (cA 9 7 37 58 aK (rfl) (dE) R) (ac (bX 4 5 3 2 (ai 1 (au (bz aK a) (ac ?_)))));obtain⟨B,h⟩|⟨B,h⟩:=am h
 ·refine ah 12 B (ay 4 5 2 (bJ [0,3,5] [3] [7] ?_));obtain⟨O,h⟩:=aD h;obtain⟨S,h⟩:=aD h;refine bQ 2 (nu 13 [.ref 7,.sl (lm aK a),.cptr (aK (gD a (0:Int))),.cptr (List.drop 0 (aK (gD a (0:Int)))),.int .u8 ((gD a (0:Int)).Depth),.int .u8 (IntKind.wrap .u8 (((gD a (0:Int)).Depth)+1)),.ptr 3 2,.ptr 3 7,.agg (aI v2.Spec.Style),.agg (aK ({ rQ with Depth:=(IntKind.wrap .u8 (((gD a (0:Int)).Depth)+1)),Style:=v2.Spec.Style }:aJ)),.sl (lm aK [({ rQ with Depth:=(IntKind.wrap .u8 (((gD a (0:Int)).Depth)+1)),Style:=v2.Spec.Style }:aJ)])]) [] [] [f9 24 7 ⟨37,58,lm aK ((([]:ew)++a)++[({ rQ with Depth:=(IntKind.wrap .u8 (((gD a (0:Int)).Depth)+1)),Style:=v2.Spec.Style }:aJ)])⟩,ci bb 105 Tryz.f14 (pn 116) 12] (av [.v 0 1,.v 0 2] (aj (fi (lo:=0) (k:=2) (db ⟨(by kernel_rfl),(de (bD aK aK O (dE) aT) (by kernel_rfl))⟩ (db ⟨(by kernel_rfl),(de (bD aK aK O (dE) aT) (by kernel_rfl))⟩ fI))) (av [.v 0 2,.v 0 2,.v 0 2,.v 0 2,.v 0 2,.v 0 2,.v 0 2,.v 0 1] (aj (dm (m:=0) (cA 24 7 37 58 aK (rfl) (dE) S)) (aj (cg 1) bS))))) (aL 2 ?_)
  cases h;exact eO
 ·refine ah 12 B (fO 2 3 3 (ai 4 (au (bz aK a) (aP 6 1 ?_))));obtain⟨U,h⟩:=aD h;refine au (IA .i64 (aa v2.At) U) (ac ?_);obtain⟨c,V,h⟩:=bU h;refine bC (ks':=[oy 501,.b 0,oy 63]) 6 ⟨[(3,.ptr 3 0),(5,.ref 7),(6,iI c),(35,.int .u8 (Int.tmod v2.Kind 4)),(56,.bool ((Int.tmod v2.Kind 4) == 0))],[(3,dw v2)],[(7,⟨37,58,lm aK (([]:ew)++a)⟩)],[3,7]⟩ ?_ (by subst V;kernel_rfl);obtain⟨N,h⟩|⟨N,h⟩:=am h
  ·refine ah 56 N (ay 4 5 2 (bJ [3,5,6] [3] [7] ?_));obtain⟨W,h⟩:=aD h;obtain⟨P,h⟩:=aD h;obtain⟨d,h⟩:=aD h;refine bQ 3 (nu 58 [.ref 7,iI c,.eptr 7 58 (c.toNat) 0,.eptr 7 58 (c.toNat) 0,.int .u8 ((gD (([]:ew)++a) c).Depth),.ref 7,iI c,.eptr 7 58 (c.toNat) 0,.eptr 7 58 (c.toNat) 1,.int .u8 ((gD (([]:ew)++a) c).Kind),.ref 7,iI c,.eptr 7 58 (c.toNat) 0,.eptr 7 58 (c.toNat) 3,.int .u8 ((gD (([]:ew)++a) c).Rows),.ptr 3 2,.ptr 3 2,.ptr 3 2,.ptr 3 3,.ptr 3 2,.ptr 3 5]) [] [] [ci bb 105 Tryz.f14 (pn 2004) 17,ci bb 105 Tryz.f14 (pn 2004) 20,ci bb 105 Tryz.f14 (pn 2004) 23] (av (vz 2) (bi (cF 7 58 aK (L:=(([]:ew)++a)) W) (av [.v 0 1] (bi (bK 5 0 aK aK (bE d).2 aT) (av [.v 0 2,.v 0 2] (aj (fi (lo:=0) (k:=2) (db ⟨(by kernel_rfl),(de (cF 7 58 aK (L:=(([]:ew)++a)) P) (by kernel_rfl))⟩ (db ⟨(by kernel_rfl),(de (cF 7 58 aK (L:=(([]:ew)++a)) P) (by kernel_rfl))⟩ fI))) (av [.v 0 2] (aj (fi (lo:=0) (k:=2) (db ⟨(by kernel_rfl),(de (bK 5 1 aK aK (bE d).2 aT) (by kernel_rfl))⟩ (db ⟨(by kernel_rfl),(de (bK 5 1 aK aK (bE d).2 aT) (by kernel_rfl))⟩ fI))) (av [.v 0 3,.v 0 3] (aj (fi (lo:=0) (k:=3) (db ⟨(by kernel_rfl),(de (cF 7 58 aK (L:=(([]:ew)++a)) d) (by kernel_rfl))⟩ (db ⟨(by kernel_rfl),(de (cF 7 58 aK (L:=(([]:ew)++a)) d) (by kernel_rfl))⟩ (db ⟨(by kernel_rfl),(de (cF 7 58 aK (L:=(([]:ew)++a)) d) (by kernel_rfl))⟩ fI)))) (av [.v 0 3] (aj (fi (lo:=0) (k:=3) (db ⟨(by kernel_rfl),(de (bK 5 3 aK aK (bE d).2 aT) (by kernel_rfl))⟩ (db ⟨(by kernel_rfl),(de (bK 5 3 aK aK (bE d).2 aT) (by kernel_rfl))⟩ (db ⟨(by kernel_rfl),(de (bK 5 3 aK aK (bE d).2 aT) (by kernel_rfl))⟩ fI)))) (av [.v 0 2,.v 0 1] (aj (cg 0) (av [.v 1 2,.v 1 1] (aj (cg 1) (av [.v 2 2,.v 2 1] (aj (cg 2) bS)))))))))))))))))) ?_
   obtain⟨v4,u,h⟩:=bU h;obtain⟨v5,w,h⟩:=bU h;obtain⟨v6,z,h⟩:=bU h;refine bC (ks':=[oy 2005,.b 0,oy 63]) 0 ⟨[(3,.ptr 3 0),(5,.ref 7),(6,iI c)],[(3,dw ({ v2 with Spec:=({ v2.Spec with Depth:=v4,Kind:=v5,Rows:=v6 }:aJ) }:dL))],[(7,⟨37,58,lm aK (([]:ew)++a)⟩)],[3,7]⟩ ?_ (by subst z;subst w;subst u;kernel_rfl);refine ai 4 ?_;obtain⟨l,h⟩:=aD h;exact au (cp 7 58 aK l) (au (dF 7 37 58 0 aK aK ({ v2.Spec with Depth:=v4,Kind:=v5,Rows:=v6 }:aJ) (bE l).2 aT) (ac (ag 0 (Qj Q h))))
  ·refine ah 56 N (bv 7 3 ?_);obtain⟨g,h⟩|⟨g,h⟩:=am h
   ·refine ah 84 g (bv 2 1 (ai 2 ?_));obtain⟨o,h⟩:=aD h;refine au (cp 7 58 aK o) (aP 4 1 (au (bK 9 2 aK aK (bE o).2 aT) ?_));obtain⟨A,h⟩:=aD h;refine au (ael A) ?_;obtain⟨p,h⟩:=aD h;exact au (cp 7 58 aK p) (aP 8 1 (au (dF 7 37 58 2 aK aK ({ (gD (([]:ew)++a) c)with Text:=(((gD (([]:ew)++a) c).Text)++(⟨#[120]⟩:ByteArray)) }:aJ) (bE p).2 aT) (ac (ag 0 (Qj Q h)))))
   ·refine ah 84 g (bv 7 3 ?_);obtain⟨i,h⟩|⟨i,h⟩:=am h
    ·refine ah 94 i (ay 4 5 2 (bJ [5,6] [] [7] ?_));obtain⟨C,h⟩:=aD h;obtain⟨D,h⟩:=aD h;refine T3 7 0 [(96,.ref 7),(97,iI c),(98,.sref 7 58 ((0:Int).toNat) (c.toNat-(0:Int).toNat)),(99,.ref 7),(100,iI c),(101,iI (aa (c+1))),(102,.sref 7 58 (((aa (c+1))).toNat) ((((([]:ew)++a).length:Int)).toNat-((aa (c+1))).toNat))] [] [] [] (av (vz 2) (bi (Ll aK (([]:ew)++a) (0:Int) c 22 (.tmp 96) none (some (.tmp 97)) 98 (id:=7) (e:=37) (sz:=58) (et:=37) (by kernel_rfl) (by kernel_rfl) (by kernel_rfl) (by kernel_rfl) (by kernel_rfl) (by kernel_rfl) (by kernel_rfl) (fun k f=>by subst f;kernel_rfl) C) (av (vz 3) (bi (Ll aK (([]:ew)++a) (aa (c+1)) ((([]:ew)++a).length:Int) 22 (.tmp 99) (some (.tmp 101)) none 102 (id:=7) (e:=37) (sz:=58) (et:=37) (by kernel_rfl) (by kernel_rfl) (by kernel_rfl) (by kernel_rfl) (by kernel_rfl) (by kernel_rfl) (by kernel_rfl) (fun k f=>by subst f;kernel_rfl) D) (yF))))) ?_
     obtain⟨E,h⟩:=aD h;refine abG 103 7 37 58 (c.toNat-(0:Int).toNat) (((aa (c+1))).toNat) ((((([]:ew)++a).length:Int)).toNat-((aa (c+1))).toNat) aK (L:=(([]:ew)++a)) (x:=(.tmp 98)) (y:=(.tmp 102)) (T:=22) (bytes:=480) E (ac (aL 3 ?_));cases h;exact eO
    ·refine ah 94 i (ay 6 7 2 (ai 2 ?_));obtain⟨q,h⟩:=aD h;refine au (cp 7 58 aK q) (aP 4 1 (au (bK 5 0 aK aK (bE q).2 aT) (ac ?_)));obtain⟨t,F,h⟩:=bU h;refine bC (ks':=[oy 64254,oy 64255,.b 0,oy 63]) 1 ⟨[(3,.ptr 3 0),(5,.ref 7),(6,iI c)],[(3,dw ({ v2 with Spec:=({ v2.Spec with Depth:=t }:aJ) }:dL))],[(7,⟨37,58,lm aK (([]:ew)++a)⟩)],[3,7]⟩ ?_ (by subst F;kernel_rfl);refine gG 7 ?_;obtain⟨G,h⟩:=aD h;obtain⟨H,h⟩:=aD h;obtain⟨I,h⟩:=aD h;obtain⟨j,h⟩:=aD h;obtain⟨J,h⟩:=aD h;refine bQ 4 (nu 43 [.ref 43,.sl (lm aK (([]:ew)++a)),iI c,.sl (lm aK (List.drop ((0:Int)).toNat (List.take c.toNat (([]:ew)++a))))]++nu 48 [.ptr 3 2,.agg (aK ({ v2.Spec with Depth:=t }:aJ)),.sl (lm aK [({ v2.Spec with Depth:=t }:aJ)])]++nu 52 [.sl (lm aK (([]:ew)++a)),iI c,.sl (lm aK (List.drop c.toNat (List.take (((([]:ew)++a).length:Int)).toNat (([]:ew)++a))))]) [] [(43,⟨37,58,[]⟩)] [f9 47 43 ⟨37,58,lm aK (([]:ew)++(List.drop ((0:Int)).toNat (List.take c.toNat (([]:ew)++a))))⟩,f9 51 43 ⟨37,58,lm aK ((([]:ew)++(List.drop ((0:Int)).toNat (List.take c.toNat (([]:ew)++a))))++[({ v2.Spec with Depth:=t }:aJ)])⟩,f9 55 43 ⟨37,58,lm aK (((([]:ew)++(List.drop ((0:Int)).toNat (List.take c.toNat (([]:ew)++a))))++[({ v2.Spec with Depth:=t }:aJ)])++(List.drop c.toNat (List.take (((([]:ew)++a).length:Int)).toNat (([]:ew)++a))))⟩,ci bb 105 Tryz.f14 (pn 64254) 13] (aj (XF 0 1 22 43 37 58) (av [.v 0 4,.v 0 4] (bi (jp aK (([]:ew)++a) (0:Int) c 22 (.tmp 44) none (some (.tmp 45)) 46 (e:=37) (sz:=58) (by kernel_rfl) (by kernel_rfl) (by kernel_rfl) (by kernel_rfl) (by kernel_rfl) (by kernel_rfl) (dE) (fun k f=>by subst f;kernel_rfl) G) (aj (dm (m:=0) (cA 47 43 37 58 aK (rfl) (dE) H)) (av [.v 0 4,.v 0 4,.v 0 2] (aj (dm (m:=1) (cA 51 43 37 58 aK (rfl) (dE) I)) (av [.v 0 4,.v 0 4] (aj (fi (lo:=0) (k:=3) (db ⟨(by kernel_rfl),(de (jp aK (([]:ew)++a) c ((([]:ew)++a).length:Int) 22 (.tmp 52) (some (.tmp 53)) none 54 (e:=37) (sz:=58) (by kernel_rfl) (by kernel_rfl) (by kernel_rfl) (by kernel_rfl) (by kernel_rfl) (by kernel_rfl) (dE) (fun k f=>by subst f;kernel_rfl) j) (by kernel_rfl))⟩ (db ⟨(by kernel_rfl),(de (jp aK (([]:ew)++a) c ((([]:ew)++a).length:Int) 22 (.tmp 52) (some (.tmp 53)) none 54 (e:=37) (sz:=58) (by kernel_rfl) (by kernel_rfl) (by kernel_rfl) (by kernel_rfl) (by kernel_rfl) (by kernel_rfl) (dE) (fun k f=>by subst f;kernel_rfl) j) (by kernel_rfl))⟩ (db ⟨(by kernel_rfl),(de (jp aK (([]:ew)++a) c ((([]:ew)++a).length:Int) 22 (.tmp 52) (some (.tmp 53)) none 54 (e:=37) (sz:=58) (by kernel_rfl) (by kernel_rfl) (by kernel_rfl) (by kernel_rfl) (by kernel_rfl) (by kernel_rfl) (dE) (fun k f=>by subst f;kernel_rfl) j) (by kernel_rfl))⟩ fI)))) (aj (dm (m:=2) (cA 55 43 37 58 aK (rfl) (dE) J)) (aj (cg 3) bS)))))))))) (aL 3 (bJ [4] [] [43] (qN 43 7 ?_)))
     cases h;exact eO
end
section
variable[GS](M:Nat→Prop)(b:aC)(r:Bool)(a v2:ae)(e:Bool)(v6:Int)(c:Nat)(d:Int→Option Bool)
abbrev Ko:Cx:=⟨bb,116,M,b⟩
abbrev HF:=bodyPost bb Tryz.f16 (bR M b (fun v _=>v=.bool r))
abbrev MX(a:dn)(s:AS):=VE (Ko M b) (HF M b r) a .normal s
abbrev C6(n:Nat):aq:=.c (cat Tryz.f16 (pn n))
abbrev Hh:dn:=[.b 0,C6 15]
abbrev ahP:dn:=kl (Ko M b) (HF M b r) Hh (cat Tryz.f16 (pn 116)) c::Hh
def SD:AS:=⟨[(2,.ptr 2 0),(3,.ptr 3 0),(5,iI v6)],[(2,aH a),(3,aH v2)],[],[2,3]⟩
def aiB:AS:=⟨[(2,.ptr 2 0),(3,.ptr 3 0),(96,.bool e)],[(2,aH a),(3,aH v2)],[],[2,3]⟩
abbrev N9:Prop:=∀{v6:Int},d v6=some r→LP (Ko M b) (HF M b r) Hh (cat Tryz.f16 (pn 116)) c (SD a v2 v6)
variable{M b r a v2 e v6 c d}{K:Kn}{n:Nat}
def ad8(m:ao K)(k:N9 M b r a v2 c d)(h:DY K n a v2 d v6=some r):MX M b r (C6 116::ahP M b r c) (SD a v2 v6):=by
 unfold DY at h;refine bX 4 5 3 2 (ai 3 (au (bz aQ a.Kids) (ac ?_)));obtain⟨e,h⟩|⟨e,h⟩:=am h
 ·refine ah 101 e (cQ 8 9 1 3 5 (bJ [2,3,5] [2,3] [] ?_));obtain⟨g,h⟩:=aD h;obtain⟨i,h⟩:=aD h;obtain⟨l,j,h⟩:=aw h;refine bQ 0 (nu 104 [.ptr 2 66,.sl (lm aQ a.Kids),iI v6,.cptr (aH (gD a.Kids v6)),.agg (aH (gD a.Kids v6)),.ptr 3 66,.sl (lm aQ v2.Kids),iI v6,.cptr (aH (gD v2.Kids v6)),.agg (aH (gD v2.Kids v6)),.bool l,.bool (!l)]) [] [] [] (av (vz 3) (bi (bD aQ aH g (jZ) (dP)) (av (vz 4) (bi (bD aQ aH i (jZ) (dP)) (av [.v 0 1] (aj (cj 0 1 114 (m.wF j)) (av [.v 0 1] bS))))))) ?_;obtain⟨f,h⟩|⟨f,h⟩:=am h
  ·refine ah 115 f (aL 9 ?_);cases h;exact bA
  ·exact ah 115 f (ag 4 (bu (k h)))
 ·refine ah 101 e (aL 8 ?_);cases h;exact bA
def adR(c:ao K)(m:Nat):N9 M b r a v2 m (zJ K n a v2 m):=by
 induction m with
 | zero=>exact fun h=>nomatch h
 | succ m d=>exact fun h=>bp (ad8 c d h)
def jx(d:ao K)(h:iq K n a v2 e=some r):MX M b r [C6 13,C6 7] (aiB a v2 e):=by
 unfold iq at h;obtain⟨c,h⟩|⟨c,h⟩:=am h
 ·refine ah 96 c (aL 5 ?_);cases h;exact bA
 ·exact ah 96 c (ag 6 (cc (p:=pn 58) n (adR d n h)))
def ET(c:ao K)(h:oh K n a v2=some r):ba bb 16 [.agg (aH a),.agg (aH v2)] (fun v _=>v=.bool r):=by
 refine bI (cat Tryz.f16 (pn 1)) Tryz.func16 Tryz.ntmps16 fun M b=>(bn ⟨[(0,.agg (aH a)),(1,.agg (aH v2))],[],[],[]⟩ ?_);unfold oh at h;refine bX 12 13 7 4 (ai 6 ?_);obtain⟨g,h⟩|⟨g,h⟩:=am h
 ·exact aG 11 g (ac (ag 0 (jx c h)))
 ·refine aG 11 g (aP 13 7 ?_);obtain⟨i,h⟩|⟨i,h⟩:=am h
  ·exact aG 18 i (ac (ag 0 (jx c h)))
  ·refine aG 18 i (aP 20 7 ?_);obtain⟨j,h⟩|⟨j,h⟩:=am h
   ·exact aG 25 j (ac (ag 0 (jx c h)))
   ·refine aG 25 j (aP 27 7 ?_);obtain⟨k,h⟩|⟨k,h⟩:=am h
    ·exact aG 32 k (ac (ag 0 (jx c h)))
    ·refine aG 32 k (aP 34 7 ?_);obtain⟨l,h⟩|⟨l,h⟩:=am h
     ·exact aG 39 l (ac (ag 0 (jx c h)))
     ·refine aG 39 l (aP 41 7 ?_);obtain⟨m,h⟩|⟨m,h⟩:=am h
      ·exact aG 46 m (ac (ag 0 (jx c h)))
      ·refine aG 46 m (aP 48 7 ?_);obtain⟨o,h⟩|⟨o,h⟩:=am h
       ·exact aG 53 o (ac (ag 0 (jx c h)))
       ·refine aG 53 o (aP 55 7 ?_);obtain⟨p,h⟩|⟨p,h⟩:=am h
        ·exact aG 60 p (ac (ag 0 (jx c h)))
        ·refine aG 60 p (aP 62 7 ?_);obtain⟨q,h⟩|⟨q,h⟩:=am h
         ·exact aG 67 q (ac (ag 0 (jx c h)))
         ·refine aG 67 q (aP 69 7 ?_);obtain⟨d,h⟩|⟨d,h⟩:=am h
          ·exact aG 74 d (ac (ag 0 (jx c h)))
          ·refine aG 74 d (aP 76 7 ?_);obtain⟨e,h⟩|⟨e,h⟩:=am h
           ·exact aG 81 e (ac (ag 0 (jx c h)))
           ·refine aG 81 e (aP 83 7 ?_);obtain⟨f,h⟩|⟨f,h⟩:=am h
            ·exact aG 88 f (ac (ag 0 (jx c h)))
            ·exact aG 88 f (aP 85 2 (au (bz aQ a.Kids) (aP 88 2 (au (bz aQ v2.Kids) (ac (ag 0 (jx c h)))))))
end
section
variable(M:Nat→Prop)(c:aC)(r:ae)(a:ab)(v2 b:Int)  
variable{M c r a v2 b}{K:Kn}{n:Nat}
def QX(d:ao K)(h:yR K n a v2 b=some r):ba bb 21 [.agg (az a),iI v2,iI b] (fun v _=>v=.agg (aH r)):=by
 refine bI (cat Tryz.f21 (pn 1)) Tryz.func21 Tryz.ntmps21 fun M c=>(bn ⟨[(0,.agg (az a)),(1,iI v2),(2,iI b)],[],[],[]⟩ ?_);unfold yR at h;refine ay 6 7 3 (bJ [1,2,3,6] [3,6] [] ?_);obtain⟨v4,e,h⟩:=aw h;refine T3 4 0 [(7,.agg (az a)),(8,iI v2),(9,iI b),(10,.agg (bP v4))] [] [] [] (av (vz 3) (aj (cj 0 1 10 (Sj (Ho d e))) (yF))) ?_;obtain⟨g,h⟩:=aD h;haveI:=PF.of g;obtain⟨v5,f,h⟩:=aw h;refine aS (Mq (V:=fun r=>.agg (aH r)) f fun h=>UR d h) (ac (aL 1 ?_));cases h;exact bA
end
section
variable(M:Nat→Prop)(b:aC)(r:Bool)(a:bh)(v2:bB)(v6:Int)(c:Nat)(d:Int→Option Bool)
abbrev LJ:Cx:=⟨bb,26,M,b⟩
abbrev Gh:=bodyPost bb Tryz.f22 (bR M b (fun v _=>v=.bool r))
abbrev ajk(a:dn)(s:AS):=VE (LJ M b) (Gh M b r) a .normal s
abbrev Mk(n:Nat):aq:=.c (cat Tryz.f22 (pn n))
abbrev Kf:dn:=[.b 0,Mk 15]
abbrev Yf:dn:=kl (LJ M b) (Gh M b r) Kf (cat Tryz.f22 (pn 116)) c::Kf
def WF:AS:=⟨[(3,.ptr 3 0),(8,.sl (lm aU a.List)),(9,iI (a.List.length:Int)),(10,iI v6)],[(3,bP v2)],[],[3]⟩
abbrev Oi:Prop:=∀{v6:Int},d v6=some r→LP (LJ M b) (Gh M b r) Kf (cat Tryz.f22 (pn 116)) c (WF a v2 v6)
variable{M b r a v2 v6 c d}{K:Kn}{n:Nat}
def afi(l:ao K)(m:Oi M b r a v2 c d)(h:A9 K n a v2 d v6=some r):ajk M b r (Mk 116::Yf M b r c) (WF a v2 v6):=by
 unfold A9 at h;refine ay 6 7 3 ?_;obtain⟨k,h⟩|⟨k,h⟩:=am h
 ·refine ah 11 k (cQ 8 9 1 3 5 (ai 0 ?_));obtain⟨g,h⟩:=aD h;refine au (bD aU aU g (Du) aT) (ac (ay 2 3 1 (bJ [3,5,8,9,10] [3,5] [] ?_)));obtain⟨i,h⟩:=aD h;haveI:=PF.of i;obtain⟨p,f,h⟩:=aw h;obtain⟨o,j,h⟩:=aw h;refine bQ 0 (nu 14 [.ptr 5 60,.agg (aH ((gD a.List v6).Fragment)),.ptr 3 0,.fn v2.Layout.id v2.Layout.aV,.ptr 5 0,.agg (az ((gD a.List v6).Box)),.ptr 5 59,iI ((gD a.List v6).Width),.agg (aH p),.bool o,.bool (!o)]) [] [] [] (av (vz 8) (aj (cj 0 1 22 (SC (V:=fun r=>.agg (aH r)) f fun h=>l.dp h).2 (SC (V:=fun r=>.agg (aH r)) f fun h=>l.dp h).1) (aj (cj 0 1 23 (ET l j)) (av [.v 0 1] bS)))) ?_;obtain⟨e,h⟩|⟨e,h⟩:=am h
  ·refine ah 24 e (aL 9 ?_);cases h;exact bA
  ·exact ah 24 e (ag 4 (bu (m h)))
 ·refine ah 11 k (aL 8 ?_);cases h;exact bA
def aga(c:ao K)(m:Nat):Oi M b r a v2 m (zl K n a v2 m):=by
 induction m with
 | zero=>exact fun h=>nomatch h
 | succ m d=>exact fun h=>bp (afi c d h)
def aem(c:ao K)(h:wA K n a=some r):ba bb 22 [.agg (bq a)] (fun v _=>v=.bool r):=by
 refine bI (cat Tryz.f22 (pn 1)) Tryz.func22 Tryz.ntmps22 fun M b=>(bn ⟨[(0,.agg (bq a))],[],[],[]⟩ ?_);unfold wA at h;refine ay 6 7 3 (ai 0 ?_);obtain⟨v2,d,h⟩:=aw h;exact aS (Sj (Ho c d)) (ac (bX 4 5 3 2 (ai 2 (au (bz aU a.List) (ac (ag 1 (cc (p:=pn 58) n (aga c n h))))))))
end
section
variable[GS](M:Nat→Prop)(b:aC)(r:Bool)(a v2:ab)(e:Bool)(v6:Int)(c:Nat)(d:Int→Option Bool)
abbrev Hc:Cx:=⟨bb,74,M,b⟩
abbrev Iy:=bodyPost bb Tryz.f24 (bR M b (fun v _=>v=.bool r))
abbrev Ot(a:dn)(s:AS):=VE (Hc M b) (Iy M b r) a .normal s
abbrev Bm(n:Nat):aq:=.c (cat Tryz.f24 (pn n))
abbrev Ih:dn:=[.b 0,Bm 15]
abbrev aci:dn:=kl (Hc M b) (Iy M b r) Ih (cat Tryz.f24 (pn 116)) c::Ih
def UQ:AS:=⟨[(2,.ptr 2 0),(3,.ptr 3 0),(5,iI v6)],[(2,az a),(3,az v2)],[],[2,3]⟩
def afI:AS:=⟨[(2,.ptr 2 0),(3,.ptr 3 0),(54,.bool e)],[(2,az a),(3,az v2)],[],[2,3]⟩
abbrev OM:Prop:=∀{v6:Int},d v6=some r→LP (Hc M b) (Iy M b r) Ih (cat Tryz.f24 (pn 116)) c (UQ a v2 v6)
variable{M b r a v2 e v6 c d}{K:Kn}{n:Nat}
def agr(m:ao K)(k:OM M b r a v2 c d)(h:BE K n a v2 d v6=some r):Ot M b r (Bm 116::aci M b r c) (UQ a v2 v6):=by
 unfold BE at h;refine bX 4 5 3 2 (ai 3 (au (bz aM a.Kids) (ac ?_)));obtain⟨e,h⟩|⟨e,h⟩:=am h
 ·refine ah 59 e (cQ 8 9 1 3 5 (bJ [2,3,5] [2,3] [] ?_));obtain⟨g,h⟩:=aD h;obtain⟨i,h⟩:=aD h;obtain⟨l,j,h⟩:=aw h;refine bQ 0 (nu 62 [.ptr 2 58,.sl (lm aM a.Kids),iI v6,.cptr (az (gD a.Kids v6)),.agg (az (gD a.Kids v6)),.ptr 3 58,.sl (lm aM v2.Kids),iI v6,.cptr (az (gD v2.Kids v6)),.agg (az (gD v2.Kids v6)),.bool l,.bool (!l)]) [] [] [] (av (vz 3) (bi (bD aM az g (fE) (dV)) (av (vz 4) (bi (bD aM az i (fE) (dV)) (av [.v 0 1] (aj (cj 0 1 72 (m.uC j)) (av [.v 0 1] bS))))))) ?_;obtain⟨f,h⟩|⟨f,h⟩:=am h
  ·refine ah 73 f (aL 9 ?_);cases h;exact bA
  ·exact ah 73 f (ag 4 (bu (k h)))
 ·refine ah 59 e (aL 8 ?_);cases h;exact bA
def acp(c:ao K)(m:Nat):OM M b r a v2 m (yo K n a v2 m):=by
 induction m with
 | zero=>exact fun h=>nomatch h
 | succ m d=>exact fun h=>bp (agr c d h)
def qB(d:ao K)(h:jS K n a v2 e=some r):Ot M b r [Bm 13,Bm 7] (afI a v2 e):=by
 unfold jS at h;obtain⟨c,h⟩|⟨c,h⟩:=am h
 ·refine ah 54 c (aL 5 ?_);cases h;exact bA
 ·exact ah 54 c (ag 6 (cc (p:=pn 58) n (acp d n h)))
def Fx(c:ao K)(h:rh K n a v2=some r):ba bb 24 [.agg (az a),.agg (az v2)] (fun v _=>v=.bool r):=by
 refine bI (cat Tryz.f24 (pn 1)) Tryz.func24 Tryz.ntmps24 fun M b=>(bn ⟨[(0,.agg (az a)),(1,.agg (az v2))],[],[],[]⟩ ?_);unfold rh at h;refine bX 12 13 7 4 (ai 6 ?_);obtain⟨d,h⟩|⟨d,h⟩:=am h
 ·exact aG 11 d (ac (ag 0 (qB c h)))
 ·refine aG 11 d (aP 13 7 ?_);obtain⟨e,h⟩|⟨e,h⟩:=am h
  ·exact aG 18 e (ac (ag 0 (qB c h)))
  ·refine aG 18 e (aP 20 7 ?_);obtain⟨f,h⟩|⟨f,h⟩:=am h
   ·exact aG 25 f (ac (ag 0 (qB c h)))
   ·refine aG 25 f (aP 27 7 ?_);obtain⟨g,h⟩|⟨g,h⟩:=am h
    ·exact aG 32 g (ac (ag 0 (qB c h)))
    ·refine aG 32 g (aP 34 7 ?_);obtain⟨i,h⟩|⟨i,h⟩:=am h
     ·exact aG 39 i (ac (ag 0 (qB c h)))
     ·refine aG 39 i (aP 41 7 ?_);obtain⟨j,h⟩|⟨j,h⟩:=am h
      ·exact aG 46 j (ac (ag 0 (qB c h)))
      ·exact aG 46 j (aP 43 2 (au (bz aM a.Kids) (aP 46 2 (au (bz aM v2.Kids) (ac (ag 0 (qB c h)))))))
end
section
variable[GS](M:Nat→Prop)(b:aC)(r:Bool)(a v2:ab)(v6:Int)(c:Nat)(d:Int→Option Bool)
abbrev Lh:Cx:=⟨bb,23,M,b⟩
abbrev Fk:=bodyPost bb Tryz.f23 (bR M b (fun v _=>v=.bool r))
abbrev afu(a:dn)(s:AS):=VE (Lh M b) (Fk M b r) a .normal s
abbrev Rm(n:Nat):aq:=.c (cat Tryz.f23 (pn n))
abbrev J0:dn:=[.b 0,Rm 15]
abbrev agu:dn:=kl (Lh M b) (Fk M b r) J0 (cat Tryz.f23 (pn 116)) c::J0
def Q9:AS:=⟨[(2,.ptr 2 0),(3,.ptr 3 0),(5,iI v6)],[(2,az a),(3,az v2)],[],[2,3]⟩
abbrev QC:Prop:=∀{v6:Int},d v6=some r→LP (Lh M b) (Fk M b r) J0 (cat Tryz.f23 (pn 116)) c (Q9 a v2 v6)
variable{M b r a v2 v6 c d}{K:Kn}{n:Nat}
def ag8(k:ao K)(i:QC M b r a v2 c d)(h:AZ K n a v2 d v6=some r):afu M b r (Rm 116::agu M b r c) (Q9 a v2 v6):=by
 unfold AZ at h;refine bX 4 5 3 2 (ai 3 (au (bz aM a.Kids) (ac ?_)));obtain⟨g,h⟩|⟨g,h⟩:=am h
 ·refine ah 13 g (cQ 8 9 1 3 5 (bJ [2,3,5] [2,3] [] ?_));obtain⟨j,h⟩:=aD h;obtain⟨l,f,h⟩:=aw h;refine bQ 0 (nu 16 [.ptr 2 58,.sl (lm aM a.Kids),iI v6,.cptr (az (gD a.Kids v6)),.agg (az (gD a.Kids v6)),.agg (az v2),.bool l]) [] [] [] (av (vz 3) (bi (bD aM az j (fE) (dV)) (av (vz 2) (aj (cj 0 1 22 (k.tq f)) bS)))) ?_;obtain⟨e,h⟩|⟨e,h⟩:=am h
  ·refine ah 22 e (aL 9 ?_);cases h;exact bA
  ·exact ah 22 e (ag 4 (bu (i h)))
 ·refine ah 13 g (aL 8 ?_);cases h;exact bA
def ag9(c:ao K)(m:Nat):QC M b r a v2 m (ye K n a v2 m):=by
 induction m with
 | zero=>exact fun h=>nomatch h
 | succ m d=>exact fun h=>bp (ag8 c d h)
def Rp(d:ao K)(h:tE K n a v2=some r):ba bb 23 [.agg (az a),.agg (az v2)] (fun v _=>v=.bool r):=by
 refine bI (cat Tryz.f23 (pn 1)) Tryz.func23 Tryz.ntmps23 fun M b=>(bn ⟨[(0,.agg (az a)),(1,.agg (az v2))],[],[],[]⟩ ?_);unfold tE at h;refine bX 12 13 7 4 (ai 2 ?_);obtain⟨f,e,h⟩:=aw h;refine aS (Fx d e) (ac ?_);obtain⟨c,h⟩|⟨c,h⟩:=am h
 ·refine ah 8 c (aL 5 ?_);cases h;exact bA
 ·exact ah 8 c (ag 6 (cc (p:=pn 58) n (ag9 d n h)))
end
section
variable(M:Nat→Prop)(j:aC)(r:Bool)(L:ew)(v2:List dL)(l:V2 Int)(P N:Nat)(i:ew)(g x y:Int)(z:dt)(O:Nat)(w:Int)(c:ab)(C:Bool)(d:Int)(D:Nat)(a:ae×Int×Int×dt)(E:Bool)(f t u:Int)(F:Bool)(G:ew)(o B I:Nat)(A:ew→Int→Int→Int→Int→dt→Option Bool)(H:Int→Option Bool)(J:Int→Int→Option Bool)
abbrev py:Cx:=⟨bb,111,M,j⟩
abbrev q6:=bodyPost bb Tryz.f6 (bR M j (fun v _=>v=.bool r))
abbrev oa(a:dn)(s:AS):=VE (py M j) (q6 M j r) a .normal s
abbrev fv(n:Nat):aq:=.c (cat Tryz.f6 (pn n))
abbrev Gg:dn:=[.b 0,fv 127]
abbrev pq:dn:=kl (py M j) (q6 M j r) Gg (cat Tryz.f6 (pn 1012)) o::Gg
abbrev FB:dn:=.b 2::fv 129615 :: .b 1::fv 4051::pq M j r o
abbrev UZ:dn:=kl (py M j) (q6 M j r) (FB M j r o) (cat Tryz.f6 (pn 1036916)) B::(FB M j r o)
abbrev Ge:dn:=.b 4 :: .b 3::fv 8295335::UZ M j r o B
abbrev F7:dn:=kl (py M j) (q6 M j r) (Ge M j r o B) (cat Tryz.f6 (pn 530901404)) I::(Ge M j r o B)
def akD:AS:=⟨[(0,.sl (lm aK i)),(1,.sl (lm dw v2)),(5,.ptr 5 0),(7,.ptr 7 0),(8,iI d),(9,iI g),(10,.ptr 10 0),(12,.ptr 12 0),(16,.any),(63,.ref 400007),(64,iI (a.2.2.2.length:Int)),(65,iI f),(78,.sref 400007 127 ((0:Int).toNat) (f.toNat-(0:Int).toNat)),(79,iI t),(80,iI u),(95,.bool F)],[(5,(jN (ak .i64)) l),(7,List.set (bq (⟨[],a.2.1,a.2.2.1⟩:bh)) 0 (.ref 400007)),(10,az c),(12,aU (gD a.2.2.2 f))],[(400007,(bk a.2.2.2))],[5,7,10,12,400007]⟩
def RN:AS:=⟨[(0,.sl (lm aK i)),(1,.sl (lm dw v2)),(5,.ptr 5 0),(7,.ptr 7 0),(8,iI d),(9,iI g),(10,.ptr 10 0),(12,.ptr 12 0),(16,.any),(63,.ref 400007),(64,iI (a.2.2.2.length:Int)),(65,iI f),(78,.sref 400007 127 ((0:Int).toNat) (f.toNat-(0:Int).toNat)),(79,iI t),(80,iI u)],[(5,(jN (ak .i64)) l),(7,List.set (bq (⟨[],a.2.1,a.2.2.1⟩:bh)) 0 (.ref 400007)),(10,az c),(12,aU (gD a.2.2.2 f))],[(400007,(bk a.2.2.2))],[5,7,10,12,400007]⟩
def Yl:AS:=⟨[(0,.sl (lm aK G)),(1,.sl (lm dw v2)),(5,.ptr 5 0),(7,.ptr 7 0),(8,iI d),(9,iI g),(16,.any)],[(5,(jN (ak .i64)) l),(7,List.set (bq (⟨[],a.2.1,a.2.2.1⟩:bh)) 0 (.ref 400007))],[(400007,(bk a.2.2.2))],[5,7,400007]⟩
def PX:AS:=⟨[(0,.sl (lm aK i)),(1,.sl (lm dw v2)),(5,.ptr 5 0),(7,.ptr 7 0),(8,iI d),(9,iI g),(10,.ptr 10 0),(16,.any),(63,.ref 400007),(64,iI (a.2.2.2.length:Int)),(65,iI f)],[(5,(jN (ak .i64)) l),(7,List.set (bq (⟨[],a.2.1,a.2.2.1⟩:bh)) 0 (.ref 400007)),(10,az c)],[(400007,(bk a.2.2.2))],[5,7,10,400007]⟩
def ab1:AS:=⟨[(0,.sl (lm aK i)),(1,.sl (lm dw v2)),(5,.ptr 5 0),(7,.ptr 7 0),(8,iI d),(9,iI g),(10,.ptr 10 0),(16,.any),(61,.bool E)],[(5,(jN (ak .i64)) l),(7,List.set (bq (⟨[],a.2.1,a.2.2.1⟩:bh)) 0 (.ref 400007)),(10,az c)],[(400007,(bk a.2.2.2))],[5,7,10,400007]⟩
def YV:AS:=⟨[(0,.sl (lm aK i)),(1,.sl (lm dw v2)),(5,.ptr 5 0),(7,.ptr 7 0),(8,iI d),(9,iI g),(10,.ptr 10 0),(16,.any)],[(5,(jN (ak .i64)) l),(7,List.set (bq (⟨[],x,y⟩:bh)) 0 (.ref 400007)),(10,az c)],[(400007,(bk z))],[5,7,10,400007]⟩
def aco:AS:=⟨[(0,.sl (lm aK i)),(1,.sl (lm dw v2)),(5,.ptr 5 0),(7,.ptr 7 0),(8,iI w),(9,iI g),(10,.ptr 10 0),(16,.any),(42,.bool C)],[(5,(jN (ak .i64)) l),(7,List.set (bq (⟨[],x,y⟩:bh)) 0 (.ref 400007)),(10,az c)],[(400007,(bk z))],[5,7,10,400007]⟩
def SY:AS:=⟨[(0,.sl (lm aK i)),(1,.sl (lm dw v2)),(5,.ptr 5 0),(7,.ptr 7 0),(8,iI w),(9,iI g),(16,.any)],[(5,(jN (ak .i64)) l),(7,List.set (bq (⟨[],x,y⟩:bh)) 0 (.ref 400007))],[(400007,(bk z))],[5,7,400007]⟩
abbrev kP:Prop:=∀{i:ew} {w:Int} {g:Int} {x:Int} {y:Int} {z:dt},A i w g x y z=some r→LP (py M j) (q6 M j r) Gg (cat Tryz.f6 (pn 1012)) o (SY v2 l i g x y z w)
abbrev Ax:Prop:=∀{f:Int},H f=some r→LP (py M j) (q6 M j r) (FB M j r o) (cat Tryz.f6 (pn 1036916)) B (PX v2 l i g c d a f)
abbrev JC:Prop:=∀{t:Int} {u:Int},J t u=some r→LP (py M j) (q6 M j r) (Ge M j r o B) (cat Tryz.f6 (pn 530901404)) I (RN v2 l i g c d a f t u)
variable{M j r L v2 l P N i g x y z O w c C d D a E f t u F G o B I A H J}{K:Kn}{n:Nat}
def Pt(k:∀ [GS],ao K)(m:kP M j r v2 l o A)(p:Ax M j r v2 l i g c d a o B H)(e:JC M j r v2 l i g c d a f o B I J)(h:vf K n v2 l i g c d a f t u A H J F=some r):oa M j r (fv 33977689907 :: .b 5::fv 4247211239::F7 M j r o B I) (akD v2 l i g c d a f t u F):=by
 letI:GS:=⟨0,true⟩;have q:=@k ⟨0,true⟩
 unfold vf at h;obtain⟨b,h⟩|⟨b,h⟩:=am h
 ·refine ah 95 b (aL 18 ?_);cases h;exact bA
 ·exact ah 95 b (ag 4 (bu (e h)))
def abN(y:∀ [GS],ao K)(v:kP M j r v2 l o A)(k:Ax M j r v2 l i g c d a o B H)(w:JC M j r v2 l i g c d a f o B I J)(h:C4 K n v2 l i g c d a f A H J t u=some r):oa M j r (fv 530901404::F7 M j r o B I) (RN v2 l i g c d a f t u):=by
 letI:GS:=⟨0,true⟩;have C:=@y ⟨0,true⟩
 unfold C4 at h;refine ay 6 7 3 ?_;obtain⟨b,h⟩|⟨b,h⟩:=am h
 ·refine ah 81 b (cQ 8 9 5 3 5 (ai 0 ?_));obtain⟨m,h⟩:=aD h;refine au (ag0 400007 127 (off:=(0:Int).toNat) m) ?_;obtain⟨p,h⟩:=aD h;refine au (bK 64 0 aU aU (jt p) aT) (ac ?_);obtain⟨x,q,h⟩:=bU h;refine bC (ks':=fv 33977689906::fv 33977689907 :: .b 5::fv 4247211239::F7 M j r o B I) 1 ⟨[(0,.sl (lm aK i)),(1,.sl (lm dw v2)),(5,.ptr 5 0),(7,.ptr 7 0),(8,iI d),(9,iI g),(10,.ptr 10 0),(12,.ptr 12 0),(14,.ptr 14 0),(16,.any),(63,.ref 400007),(64,iI (a.2.2.2.length:Int)),(65,iI f),(78,.sref 400007 127 ((0:Int).toNat) (f.toNat-(0:Int).toNat)),(79,iI t),(80,iI u)],[(5,(jN (ak .i64)) l),(7,List.set (bq (⟨[],a.2.1,a.2.2.1⟩:bh)) 0 (.ref 400007)),(10,az c),(12,aU (gD a.2.2.2 f)),(14,aU x)],[(400007,(bk a.2.2.2))],[5,7,10,12,14,400007]⟩ ?_ (by subst q;kernel_rfl);refine ai 6 ?_;obtain⟨e,h⟩|⟨e,h⟩:=am h
  ·refine aG 89 e (aP 10 4 ?_);obtain⟨z,s,h⟩:=aw h;exact aS (Fx C s) (ac (ag 0 (Pt y v k w h)))
  ·exact aG 89 e (ac (ag 0 (Pt y v k w h)))
 ·exact ah 81 b (ag 7 (bu (k h)))
def ahD(k:∀ [GS],ao K)(b:kP M j r v2 l o A)(e:Ax M j r v2 l i g c d a o B H)(m:Nat):JC M j r v2 l i g c d a f o B m (w7 K n v2 l i g c d a f A H m):=by
 letI:GS:=⟨0,true⟩;have q:=@k ⟨0,true⟩
 induction m with
 | zero=>exact fun h=>nomatch h
 | succ m p=>exact fun h=>bp (abN k b e p h)
def Oy(c:∀ [GS],ao K)(b:kP M j r v2 l o A)(h:Ae K n v2 l g d a A G=some r):oa M j r (.b 1::fv 4051::pq M j r o) (Yl v2 l g d a G):=by
 letI:GS:=⟨0,true⟩;have e:=@c ⟨0,true⟩
 unfold Ae at h;exact ag 2 (bu (b h))
def adm(D:∀ [GS],ao K)(v:kP M j r v2 l o A)(E:Ax M j r v2 l i g c d a o B H)(h:rp K n v2 l i g c d a A H f=some r):oa M j r (fv 1036916::UZ M j r o B) (PX v2 l i g c d a f):=by
 letI:GS:=⟨0,true⟩;have F:=@D ⟨0,true⟩
 unfold rp at h;refine ay 6 7 3 ?_;obtain⟨b,h⟩|⟨b,h⟩:=am h
 ·refine ah 66 b (cQ 8 9 3 3 5 (ai 1 ?_));obtain⟨u,h⟩:=aD h;refine au (cp 400007 127 aU u) (au (bK 64 0 aU aU (bE u).2 aT) (ac (bX 4 5 3 2 (ai 3 ?_))));obtain⟨G,w,h⟩:=aw h;refine aS (Rp F w) (ac ?_);obtain⟨q,h⟩|⟨q,h⟩:=am h
  ·refine ah 74 q (aL 15 ?_);cases h;exact bA
  ·refine ah 74 q (fO 2 3 3 (ai 3 ?_));obtain⟨x,h⟩:=aD h;exact au (Ll aU a.2.2.2 (0:Int) f 27 (.tmp 76) none (some (.tmp 77)) 78 (id:=400007) (e:=64) (sz:=127) (et:=64) (by kernel_rfl) (by kernel_rfl) (by kernel_rfl) (by kernel_rfl) (by kernel_rfl) (by kernel_rfl) (by kernel_rfl) (fun k I=>by subst I;kernel_rfl) x) (au (ajW (m:=(f.toNat-(0:Int).toNat))) (ac (ag 1 (cc (p:=pn 265450702) n (ahD D v E n h)))))
 ·refine ah 66 b (gB 2 3 6 (ai 2 (au (bz dw v2) (ac ?_))));obtain⟨s,h⟩|⟨s,h⟩:=am h
  ·refine ah 101 s (ay 4 5 2 (ai 3 ?_));obtain⟨y,h⟩:=aD h;refine au (bD dw dw y (KV) aT) (aP 5 1 ?_);obtain⟨C,z,h⟩:=aw h;refine eZ 1107 (agK F z) (fa 7) (ac (ay 2 3 1 (ai 1 (au (bz aK C) (ac ?_)))));obtain⟨t,h⟩|⟨t,h⟩:=am h
   ·refine ah 110 t (aL 9 ?_);cases h;exact bA
   ·exact ah 110 t (cd (ks':=.b 1::fv 4051::pq M j r o) 2 (gG 1107 (ag 0 (Oy D v h))))
  ·exact ah 101 s (ag 2 (Oy D v h))
def abO(e:∀ [GS],ao K)(b:kP M j r v2 l o A)(m:Nat):Ax M j r v2 l i g c d a o m (pN K n v2 l i g c d a A m):=by
 letI:GS:=⟨0,true⟩;have k:=@e ⟨0,true⟩
 induction m with
 | zero=>exact fun h=>nomatch h
 | succ m f=>exact fun h=>bp (adm e b f h)
def PG(f:∀ [GS],ao K)(e:kP M j r v2 l o A)(h:zS K n v2 l i g c d a A E=some r):oa M j r (fv 129613::fv 64807 :: .b 1::fv 4051::pq M j r o) (ab1 v2 l i g c d a E):=by
 letI:GS:=⟨0,true⟩;have k:=@f ⟨0,true⟩
 unfold zS at h;obtain⟨b,h⟩|⟨b,h⟩:=am h
 ·refine ah 61 b (aL 10 ?_);cases h;exact bA
 ·exact ah 61 b (oL 4 5 3 4 (ai 2 (au (bz aU a.2.2.2) (ac (ag 1 (cc (p:=pn 518458) n (abO f e n h)))))))
def MN(w:∀ [GS],ao K)(C:kP M j r v2 l o A)(h:vu K n v2 l i g x y z c A d=some r):oa M j r (fv 32403 :: .b 1::fv 4051::pq M j r o) (YV v2 l i g x y z c d):=by
 letI:GS:=⟨0,true⟩;have B:=@w ⟨0,true⟩
 unfold vu at h;refine bX 4 5 3 2 (bJ [0,1,5,7,8,9,10,16] [5,7,10] [400007] (ag3 16 7 7 fun D=>?_));obtain⟨a,p,h⟩:=aw h;obtain⟨u,s,h⟩:=aw h;obtain⟨f,t,h⟩:=aw h;obtain⟨k,h⟩|⟨k,h⟩:=am h
 ·exact bQ 1 (nu 45 [.agg (az c),iI d,.ptr 5 1,iI l.a1]++nu 50 [.agg (az c),iI d,.ptr 5 1,iI l.a1,.agg (aH u),.bool f,.bool (!f),.bool true,be,be,be,.bool true]) [] [] [li 7 400007 (some 49) (bk a.2.2.2) [(af a.2.1 a.2.2.1)] (.agg (aH a.1))] (av [.v 0 1,.v 0 1,.v 0 2,.v 0 1] (aj (acx 0 16 7 400007 D (fun [GS] [RG]=>(CR w p))) (av [.v 0 2,.v 0 2,.v 0 2,.v 0 2] (aj (cj 1 1 54 (QX B s)) (aj (cj 1 1 55 (ET B t)) (av [.v 1 1] (aj (cW 1 57 (e:=(!f)) (b:=true) k) (aj (aF 1 1) (aj (aF 1 1) (aj (aF 1 1) (av [.v 1 1] bS))))))))))) (HZ 16 (ag 0 (PG w C h)))
 ·obtain⟨m,v,h⟩:=aw h;exact bQ 1 (nu 45 [.agg (az c),iI d,.ptr 5 1,iI l.a1]++nu 50 [.agg (az c),iI d,.ptr 5 1,iI l.a1,.agg (aH u),.bool f,.bool (!f),.bool false]++nu 59 [.bool m,.bool (!m),.bool (!m)]) [] [] [Q2 [(58,.agg (List.set (bq (⟨[],a.2.1,a.2.2.1⟩:bh)) 0 (.ref 400007)))] 7 400007 (some 49) (bk a.2.2.2) [(af a.2.1 a.2.2.1)] (.agg (aH a.1))] (av [.v 0 1,.v 0 1,.v 0 2,.v 0 1] (aj (afA [(58,.agg (List.set (bq (⟨[],a.2.1,a.2.2.1⟩:bh)) 0 (.ref 400007)))] 0 16 7 400007 D (fun [GS] [RG]=>(CR w p))) (av [.v 0 2,.v 0 2,.v 0 2,.v 0 2] (aj (cj 1 1 54 (QX B s)) (aj (cj 1 1 55 (ET B t)) (av [.v 1 1] (aj (cW 1 57 (e:=(!f)) (b:=false) k) (av [.v 1 1] (aj (e_x 1 59 (aem B v) (by kernel_rfl:ri _ _=some (22,[.agg (bq (⟨a.2.2.2,a.2.1,a.2.2.1⟩:bh))],[.agg (List.set (bq (⟨[],a.2.1,a.2.2.1⟩:bh)) 0 (.ref 400007))])) (af2 (q:=[]) (by kernel_rfl) trivial)) (av [.v 1 1,.v 1 1] bS)))))))))) (HZ 16 (ag 0 (PG w C h)))
def NE(d:∀ [GS],ao K)(b:kP M j r v2 l o A)(h:uE K n v2 l i g x y z w c A C=some r):oa M j r (fv 64805::fv 32403 :: .b 1::fv 4051::pq M j r o) (aco v2 l i g x y z w c C):=by
 letI:GS:=⟨0,true⟩;have e:=@d ⟨0,true⟩
 unfold uE at h;obtain⟨a,h⟩|⟨a,h⟩:=am h
 ·exact ah 42 a (ag 2 (MN d b h))
 ·exact ah 42 a (ag 2 (MN d b h))
def ZB(k:∀ [GS],ao K)(f:kP M j r v2 l o A)(h:BH K n v2 l A i w g x y z=some r):oa M j r (fv 1012::pq M j r o) (SY v2 l i g x y z w):=by
 letI:GS:=⟨0,true⟩;have m:=@k ⟨0,true⟩
 unfold BH at h;refine bX 4 5 3 2 (ai 2 (au (bz dw v2) (ac ?_)));obtain⟨a,h⟩|⟨a,h⟩:=am h
 ·refine ah 26 a (cQ 8 9 1 3 5 (ai 1 ?_));obtain⟨c,d,h⟩:=aw h;refine aS (YW m d) (ac (bX 4 5 3 2 (ai 3 ?_)));obtain⟨b,h⟩|⟨b,h⟩:=am h
  ·refine aG 33 b (aP 6 3 ?_);obtain⟨e,h⟩:=aD h;exact au (bD dw dw e (KV) aT) (ac (ag 0 (NE k f h)))
  ·exact aG 33 b (ac (ag 0 (NE k f h)))
 ·refine ah 26 a (aL 8 ?_);cases h;exact bA
def agG(a:∀ [GS],ao K)(m:Nat):kP M j r v2 l m (qz K n v2 l m):=by
 letI:GS:=⟨0,true⟩;have c:=@a ⟨0,true⟩
 induction m with
 | zero=>exact fun h=>nomatch h
 | succ m b=>exact fun h=>bp (ZB a b h)
def Yi(c:∀ [GS],ao K)(h:Ep K n L v2 l=some r):ba bb 6 [.sl (lm aK L),.sl (lm dw v2),.agg ((jN (ak .i64)) l)] (fun v _=>v=.bool r):=by
 letI:GS:=⟨0,true⟩;have f:=@c ⟨0,true⟩
 refine bI (cat Tryz.f6 (pn 1)) Tryz.func6 Tryz.ntmps6 fun M j=>(bn ⟨[(0,.sl (lm aK L)),(1,.sl (lm dw v2)),(2,.agg ((jN (ak .i64)) l))],[],[],[]⟩ ?_);unfold Ep at h;refine bX 12 13 7 4 (ai 0 ?_);obtain⟨v4,d,h⟩:=aw h;refine aS (aiJ c d) (ac ?_);obtain⟨a,h⟩|⟨a,h⟩:=am h
 ·refine ah 16 a (aL 5 ?_);cases h;exact bA
 ·refine ah 16 a (oL 4 5 3 4 (ai 2 ?_));obtain⟨v5,e,h⟩:=aw h;refine aS (WK f e) (ac ?_);obtain⟨b,h⟩|⟨b,h⟩:=am h
  ·refine ah 20 b (aL 5 ?_);cases h;exact bA
  ·exact ah 20 b (EK 58 0 15 10 (HZ 16 (bJ [0,1,5,7,8,9,16] [5,7] [] (ze 400007 7 0 64 127 (ag 0 (cc (p:=pn 506) n (agG c n h)))))))
end
end
end Go.Proofs.YtocgkfoifehcbaaGreat

/- The runs of the functions that RelayoutFinds reaches do what their plain forms say, part 4. Made by a program. -/
import Derived.Test.YtocgkfoifehcbaaGreatRkP3
namespace Go.Proofs.YtocgkfoifehcbaaGreat
open Go.RowKit
set_option maxRecDepth 20000
set_option linter.all false
def rl:=@List.getD_eq_getElem?_getD
def aaZ:=@List.getElem?_set_self
def aca:=@List.getElem?_set_ne
def aji:=@decide_eq_true
def akV:=@List.getElem?_eq_none
def ala:=@Option.some.inj
def ale:=@List.nodup_append
structure DB where
 nd:Bool
 b:ab
 y:Value
 kids:List DB
instance:Inhabited DB:=⟨⟨false,c9,.nilIface,[]⟩⟩
def DB.cells(D:DB):c6:=List.set (aB ({ D.b with Kids:=[] }:ab)) 58 (.vv D.y)
theorem DB.ajq(D:DB):D.cells.length=59:=rfl
mutual
def DB.plain:DB→ab
 | ⟨_,b,_,a⟩=>{ b with Kids:=iD a }
def iD:List DB→d4
 | []=>[]
 | d::r=>d.plain::iD r
end
theorem mL:∀l:List DB,iD l=l.map DB.plain
 | []=>rfl
 | d::r=>by simp[iD,mL r]
mutual
def DB.bl:DB→eb
 | ⟨b,_,y,a⟩=>match b with|true=>(match bz (some y) with|some g=>[g]|none=>[])++bls a|false=>[]
def bls:List DB→eb
 | []=>[]
 | d::r=>d.bl++bls r
end
theorem H9:∀(l m:List DB),bls (l++m)=bls l++bls m
 | [],m=>rfl
 | d::r,m=>by simp[bls,H9 r m]
theorem kG:∀{l:List DB} {g:Nat},g∈bls l↔∃d∈l,g∈d.bl
 | [],g=>by simp[bls]
 | d::r,g=>by simp[bls,kG (l:=r)]
theorem DB.QK(D:DB):D.plain={ D.b with Kids:=D.kids.map DB.plain }:=by cases D;simp only[DB.plain,mL]
theorem DB.Ou(D:DB):aM D.plain=List.set (aB ({ D.b with Kids:=[] }:ab)) 58 (.sl (lm aM (D.kids.map DB.plain))):=by
 rw[d7,DB.QK];rfl
theorem Xq{y x:Value}(h:ii (.vv y) x):x=y:=by
 have:=h (fun _=>False) default bG;cases this;rfl
inductive dN (w:World):DB→Prop
 | leaf (b:ab) (y:Value) (hb:b.Kind≠1) (A:Option Addr) (c:Nat) (hy:y=.slice A 0 c):dN w ⟨false,b,y,[]⟩
 | node (b:ab) (y:Value) (kids:List DB) (xs:ee) (h1:w.ownsRow 0 48 59 y kids.length xs) (h2:∀ x∈xs,x.oneCell'=true)
     (h3:∀(j:Nat) (D:DB),kids[j]?=some D→∀(i:Nat) (c:AV),D.cells[i]?=some c→∃x,xs[j*59+i]?=some x∧ii c x) (h4:∀D∈kids,dN w D):dN w ⟨true,b,y,kids⟩
theorem Q0{b:ab}{y:Value}{a:List DB}{D:DB}(h:D∈a){g:Nat}(c:g∈D.bl):g∈(⟨true,b,y,a⟩:DB).bl:=by
 simp only[DB.bl,n5];exact .inr (kG.2 ⟨D,h,c⟩)
theorem Cl{b:ab}{y:Value}{a:List DB}{g:Nat}(c:bz (some y)=some g):g∈(⟨true,b,y,a⟩:DB).bl:=by
 simp[DB.bl,c]
theorem dN.bZ{w w':World}{D:DB}(h:dN w D):(∀g∈D.bl,w'.heap[g]?=w.heap[g]?)→dN w' D:=by
 induction h with
 | leaf b y l A c m=>intro _;exact .leaf b y l A c m
 | node b y a xs i j k o n=>intro f;exact .node b y a xs (fR i (fun g d=>f g (Cl d))) j k (fun D e=>n D e (fun g d=>f g (Q0 e d)))
theorem dN.lt{w:World}{D:DB}(h:dN w D):∀g∈D.bl,g<w.heap.size:=by
 induction h with
 | leaf b y d A c p=>intro g a;cases a
 | node b y f xs i m n o k =>
   intro g a;simp only[DB.bl,n5]at a;rcases a with a|a
   · cases d:bz (some y) with
     | none=>rw[d]at a;cases a
     | some l=>rw[d]at a;rw[ags.1 a];exact HT i d
   · obtain⟨D,j,e⟩:=kG.1 a;exact k D j g e
theorem dN.rel{w:World}{N:Nat→Prop}{D:DB}(h:dN w D):(∀g∈D.bl,¬ N g)→Rel N w bG (.sl (lm aM (D.kids.map DB.plain))) D.y:=by
 induction h with
 | leaf b y Q A c U=>intro _;subst U;exact .sl0 _ _ _
 | node b y a xs O P G X W =>
   intro I;obtain⟨Y,⟨V,C⟩|⟨g,s,t,K,Q,r,R,J,T,F⟩⟩:=O
   · have:a=[]:=n3 C;subst this;show Rel N w bG (.sl []) y;rw[V];exact .sl0 _ _ _
   · have z:bz (some y)=some g:=by rw[K];rfl
     have H:(lm aM (a.map DB.plain)).length=a.length:=by simp
     have q:∀(j:Nat) (e:c6),(lm aM (a.map DB.plain))[j]?=some e→∃D,a[j]?=some D∧e=aM D.plain:=fun j e d=>by
       rw[AT,AT]at d;cases L:a[j]? with
       | none=>rw[L]at d;cases d
       | some D=>rw[L]at d;injection d with d;exact⟨D,rfl,d.symm⟩
     have k:∀(j:Nat) (e:c6),(lm aM (a.map DB.plain))[j]?=some e→∀(i:Nat) (x:AV),e[i]?=some x→∃v,xs[j*59+i]?=some v∧Rel N w bG x v:=fun j e d i x l=>by
       obtain⟨D,u,rfl⟩:=q j e d;rw[DB.Ou]at l;have n:=mm u;have m:(aB ({ D.b with Kids:=[] }:ab)).length=59:=rfl;by_cases p:i=58
       · subst p;rw[aaZ (by rw[m];omega)]at l;injection l with l;subst l
         obtain⟨v,f,E⟩:=G j D u 58 (.vv D.y) (by unfold DB.cells;rw[aaZ (by rw[m];omega)]);refine⟨v,f,?_⟩;rw[Xq E];exact W D n (fun M B=>I M (Q0 n B))
       · rw[aca (fun e=>p e.symm)]at l;obtain⟨v,f,E⟩:=G j D u i x (by unfold DB.cells;rw[aca (fun e=>p e.symm)];exact l);exact⟨v,f,E _ _ _⟩
     have o:=Rel.sl (N:=N) (w:=w) bG (lm aM (a.map DB.plain)) g 0 s 59 (fun j i=>(xs[j*59+i]?).getD (.bool true)) (fun e d=>by
         obtain⟨b,_,rfl⟩:=BY.1 d;exact fV b) (qk.1 r).1 (I g (Cl z)) (fun j i=>by
         cases e:xs[j*59+i]? with
         | none=>rfl
         | some v=>exact P v (mm e)) (fun j e d i x l=>by
         obtain⟨v,f,_⟩:=k j e d i x l;rw[ald _ _ _ _ 48 (0,0) r];have:t.toList[j*59+i]?=some v:=by
           rw[←F]at f;rw[In]at f;split at f
           · exact f
           · cases f
         simp only[f,Ts];rw[←afC,Dy];exact this) (fun j e d i x l=>by
         obtain⟨v,f,S⟩:=k j e d i x l;simp only[f,Ts];exact S) (by rw[H];exact R)
     rw[H]at o;show Rel N w bG _ y;rw[K];exact o
theorem KM{N:Nat→Prop}{w:World}{ι:Env}{l:c6}{c:AV}{y x:Value}{q:Nat}(h:Rel N w ι (.agg (l.set q c)) x)(g:q<l.length)(p:((l.set q (.bool true)).all sM)=true)(o:∀v,Rel N w ι c v→v=y)(s:y.oneCell'=true):ii (.agg (l.set q (.vv y))) x:=by
 cases h with
 | agg _ _ vs b m j =>
   intro N' w' ι';refine .agg _ _ vs (by simpa using b) m fun i a v d k=>?_;rw[akz]at b;by_cases f:i=q
   · subst f;rw[aaZ g]at d;injection d with d;subst d
     have:=o v (j i c v (aaZ g) k);subst this;exact .vv _ _ s
   · rw[aca (fun e=>f e.symm)]at d;have n:=j i a v (by rw[aca (fun e=>f e.symm)];exact d) k;have r:=ne.1 p a (mm (i:=i) (by rw[aca (fun e=>f e.symm)];exact d));exact Cc r n
theorem Ku{N:Nat→Prop}{w:World}{ι:Env}{id:Nat}{y:Value}(a:ι id=some y):∀v,Rel N w ι (.ref id) v→v=y:=fun v h=>by
 cases h with
 | ref _ _ A n c h=>rw[a]at h;injection h with h;exact h.symm
theorem FZ{N:Nat→Prop}{w:World}{D:DB}{i:Nat}{c:AV}{x:Value}(a:D.cells[i]?=some c)(h:Rel N w bG c x):ii c x:=by
 have d:(aB ({ D.b with Kids:=[] }:ab)).length=59:=rfl;by_cases b:i=58
 · subst b;unfold DB.cells at a;rw[aaZ (by rw[d];omega)]at a;injection a with a;subst a
   cases h with
   | vv _ _ f=>exact fun _ _ _=>.vv _ _ f
 · have g:sM c=true:=ne.1 (show ((List.set (aB ({ D.b with Kids:=[] }:ab)) 58 (.bool true)).all sM)=true from rfl) c (mm (i:=i) (by
     unfold DB.cells at a;rw[aca (fun e=>b e.symm)]at a⊢;exact a))
   exact fun _ _ _=>Cc g h
def DB.fF(D:DB):c6:=List.set (aB ({ D.b with Kids:=[] }:ab)) 58 (match D.nd with|true=>.vv D.y|false=>.sl [])
theorem DB.P7(D:DB):D.fF.length=59:=rfl
theorem Jh{α β:Type}{P:Nat→α→β→Prop}:∀(l:List α) (k:Nat),(∀(j:Nat) (a:α),l[j]?=some a→∃b,P (k+j) a b)→∃m:List β,m.length=l.length∧∀(j:Nat) (a:α),l[j]?=some a→∃b,m[j]?=some b∧P (k+j) a b
 | [],k,_=>⟨[],rfl,fun j a h=>by simp at h⟩
 | a::r,k,h=>by
   obtain⟨b,o⟩:=h 0 a rfl;obtain⟨m,i,n⟩:=Jh (P:=P) r (k+1) (fun j d c=>by have:=h (j+1) d (by simpa using c);rw[show k+1+j=k+(j+1) by omega];exact this);refine⟨b::m,by simp[i],fun j d c=>?_⟩;cases j with
   | zero=>simp at c;subst c;exact⟨b,rfl,o⟩
   | succ j =>
     obtain⟨e,f,g⟩:=n j d (by simpa using c);exact⟨e,by simpa using f,by rw[show k+(j+1)=k+1+j by omega];exact g⟩
theorem DR{α β γ:Type}{f:α→γ}{g:β→γ}:∀{l:List α} {m:List β},m.length=l.length→(∀(j:Nat) (a:α),l[j]?=some a→∃b,m[j]?=some b∧g b=f a)→m.map g=l.map f
 | [],[],_,_=>rfl
 | [],_::_,h,_=>by cases h
 | _::_,[],h,_=>by cases h
 | a::r,b::q,h,k=>by
   obtain⟨n,c,e⟩:=k 0 a rfl;simp at c;subst c;rw[q6,q6,e,DR (by simpa using h) (fun j d i=>by simpa using k (j+1) d (by simpa using i))]
theorem pG:∀l:List DB,bls l=(l.map DB.bl).flatten
 | []=>rfl
 | d::r=>by simp[bls,pG r]
theorem adB{M:Nat→Prop}{b:aA}{w:World}{ι:Env}{s:AS}(h:HS M b w ι s){id:Nat}{n:List DB}(hr:look id s.r=some ⟨48,59,n.map DB.fF⟩)(g0:id<TG){y:Value}(U:ι id=some y)(W:ab)(S:∀D∈n,(D.nd=true→dN b.w D∧∀g∈D.bl,M g)∧(D.nd=false→D.kids=[]∧D.b.Kind≠1))(J:(bls n).Nodup):
   ∃Ds',iD Ds'=iD n∧bls Ds'=bls n∧dN w ⟨true,W,y,Ds'⟩∧(∀g∈bls Ds',M g)∧(⟨true,W,y,Ds'⟩:DB).bl.Nodup∧(∀g,bz (some y)=some g→b.O g∧g<w.heap.size):=by
 obtain⟨v,xs,Q,e2,e3,e4,e5⟩:=h.arrs id _ hr (by rw[U];rfl);rw[U]at Q;injection Q with Q;subst Q
 have C:∀D:DB,D.nd=false→D.bl=[]:=fun D l=>by cases D;simp only at l;subst l;rfl
 have X:∀D∈n,∀g∈D.bl,M g:=fun D l g m=>by
   cases B:D.nd with
   | true=>exact((S D l).1 B).2 g m
   | false=>rw[C D B]at m;cases m
 have step:∀(j:Nat) (D:DB),n[j]?=some D→∃k:DB,k.plain=D.plain∧k.bl=D.bl∧dN w k∧∀(i:Nat) (c:AV),k.cells[i]?=some c→∃x,xs[(0+j)*59+i]?=some x∧ii c x:=fun j D l=>by
   have u:=mm l;have F:(aB ({ D.b with Kids:=[] }:ab)).length=59:=rfl;have get:∀(i:Nat) (c:AV),D.fF[i]?=some c→∃x,xs[j*59+i]?=some x∧Rel (NN M ι) w bG c x:=fun i c d=>by
     obtain⟨x,O,z⟩:=e5 j D.fF (by rw[AT,l];rfl) i c d;exact⟨x,O,z.flat (by omega)⟩
   cases B:D.nd with
   | true =>
     have q:D.fF=D.cells:=by unfold DB.fF DB.cells;rw[B]
     refine⟨D,rfl,rfl,((S D u).1 B).1.bZ fun g m=>?_,fun i c d=>?_⟩
     · have G:=h.old g (((S D u).1 B).2 g m);exact h.below.block g G.1 G.2
     · obtain⟨x,O,z⟩:=get i c (by rw[q];exact d);exact⟨x,by rw[Dy];exact O,FZ d z⟩
   | false =>
     obtain⟨r,t⟩:=(S D u).2 B;have q:D.fF=List.set (aB ({ D.b with Kids:=[] }:ab)) 58 (.sl []):=by unfold DB.fF;rw[B]
     obtain⟨x,O,z⟩:=get 58 (.sl []) (by rw[q,aaZ (by rw[F];omega)]);have f0:∃A c,x=.slice A 0 c:=by
       cases z with
       | sl0 _ A c=>exact⟨A,c,rfl⟩
       | sl _ _ b o c sz h0=>exact⟨_,_,rfl⟩
     obtain⟨A,c0,rfl⟩:=f0;obtain⟨nd,V,yy,kk⟩:=D;simp only at B r t;subst B;subst r;refine⟨⟨false,V,.slice A 0 c0,[]⟩,rfl,rfl,.leaf V _ t A c0 rfl,fun i c d=>?_⟩;rw[Dy];by_cases K:i=58
     · subst K;unfold DB.cells at d;rw[aaZ (by rw[F];omega)]at d;injection d with d;subst d
       exact⟨_,O,fun _ _ _=>.vv _ _ rfl⟩
     · have Z:(DB.fF ⟨false,V,yy,[]⟩)[i]?=some c:=by
         unfold DB.cells at d;unfold DB.fF;rw[aca (fun e=>K e.symm)]at d⊢;exact d
       obtain⟨x,e0,N⟩:=get i c Z;exact⟨x,e0,FZ d N⟩
 obtain⟨Ds',T,H⟩:=Jh (P:=fun j (D k:DB)=>k.plain=D.plain∧k.bl=D.bl∧dN w k∧∀(i:Nat) (c:AV),k.cells[i]?=some c→∃x,xs[j*59+i]?=some x∧ii c x) n 0 step;have d0:iD Ds'=iD n:=by
   rw[mL,mL];exact DR T fun j a Y=>by obtain⟨b,E,R,_⟩:=H j a Y;exact⟨b,E,R⟩
 have I:bls Ds'=bls n:=by
   rw[pG,pG,DR (f:=DB.bl) (g:=DB.bl) T fun j a Y=>by obtain⟨b,E,_,R,_⟩:=H j a Y;exact⟨b,E,R⟩]
 have p:∀(j:Nat) (k:DB),Ds'[j]?=some k→dN w k∧∀(i:Nat) (c:AV),k.cells[i]?=some c→∃x,xs[j*59+i]?=some x∧ii c x:=fun j k L=>by
   have b0:j<n.length:=by rw[←T];exact(jf.1 L).1
   obtain⟨b,E,R,g3,g4,g5⟩:=H j _ (jt b0);rw[L]at E;injection E with E;subst E
   exact⟨g4,fun i c d=>by have:=g5 i c d;rw[Dy]at this;exact this⟩
 have hM:∀g∈bls Ds',M g:=fun g m=>by
   rw[I]at m;obtain⟨D,l,a0⟩:=kG.1 m;exact X D l g a0
 refine⟨Ds',d0,I,.node W y Ds' xs (by rw[T];simpa using e2) e4 (fun j D l i c d=>(p j D l).2 i c d) (fun D l=>?_),hM,?_,fun g m=>h.own id g (by rw[U];exact m)⟩
 · obtain⟨j,hj⟩:=akW l;exact(p j D hj).1
 · simp only[DB.bl];rw[←I]at J;cases hb:bz (some y) with
   | none=>exact J
   | some g =>
     refine List.nodup_cons.2 ⟨fun m=>?_,J⟩;exact h.sep (hM g m) (by rw[U];exact hb)
noncomputable section
variable(M:Nat→Prop)(f:World)(o:aA)(r:ab×Int)(d:h7)(v2:Int)(u:Bool)(j:Int)(t:List DB)(z:Bool)(B:Nat)(A:Int→d4→Option f6)
abbrev KC:Cx:=⟨bb,95,M,o⟩
def QT(r:ab×Int)(w w':World)(v:AV):Prop:=∃D:DB,D.nd=true∧D.plain=r.1∧v=.tup [.agg D.cells,iI r.2]∧dN w' D∧(∀g∈D.bl,w.heap.size≤g∧g<w'.heap.size)∧D.bl.Nodup
abbrev qT:=bodyPost bb Tryz.f41 (fun e w'=>∃x v,e=.returned x∧Below f.heap.size f w'∧QT r f w' v∧ii v x)
abbrev GW(a:dt)(s:AS):=VE (KC M o) (qT f r) a .normal s
structure FI(M:Nat→Prop)(f:World)(o:aA)(Ds:List DB):Prop where
 gr:fQ (fun _=>False) (mi f) o
 ok:∀D∈Ds,(D.nd=true→dN o.w D∧∀g∈D.bl,M g∧f.heap.size≤g)∧(D.nd=false→D.kids=[]∧D.b.Kind≠1)
 nodup:(bls Ds).Nodup
theorem FI.bl{M:Nat→Prop}{f:World}{o:aA}{d:List DB}(h:FI M f o d):∀g∈bls d,M g∧f.heap.size≤g:=fun g i=>by
 obtain⟨D,e,a⟩:=kG.1 i;cases c:D.nd with
 | true=>exact((h.ok D e).1 c).2 g a
 | false=>obtain⟨j,b,y,k⟩:=D;simp only at c;subst c;cases a
theorem FI.add{M:Nat→Prop}{f w:World}{o m:aA}{s:List DB}(h:FI M f o s)(t:∀k,M k→k<o.w.heap.size∧¬ o.G k)(r:o.w.heap.size≤w.heap.size)(u:fQ (fun _=>False) o m){D:DB}(n:D.nd=true)(q:dN m.w D)(l:∀g∈D.bl,w.heap.size≤g∧g<m.w.heap.size)(p:D.bl.Nodup):FI (fun c=>M c∨c∈D.bl) f m (s++[D]):=by
 refine⟨h.gr.trans u,fun j d=>?_,?_⟩
 · rcases n5.1 d with d|d
   · refine⟨fun i=>⟨((h.ok j d).1 i).1.bZ fun g e=>?_,fun g e=>⟨.inl (((h.ok j d).1 i).2 g e).1,(((h.ok j d).1 i).2 g e).2⟩⟩,(h.ok j d).2⟩;have:=t g (((h.ok j d).1 i).2 g e).1;exact u.block g this.1 this.2 (fun h=>h)
   · rw[ags.1 d];exact⟨fun _=>⟨q,fun g e=>⟨.inr e,RX h.gr.size (RX r (l g e).1)⟩⟩,fun i=>by rw[n]at i;cases i⟩
 · rw[H9];refine ale.2 ⟨h.nodup,by simpa[bls]using p,fun a v b x=>?_⟩;have y:=t a (h.bl a v).1;have z:=l b (by simpa[bls]using x);omega
theorem FI.txt{M:Nat→Prop}{f:World}{o:aA}{c:List DB}(h:FI M f o c){b:ab}{y:Value}(e:b.Kind≠1):FI M f o (c++[⟨false,b,y,[]⟩]):=by
 refine⟨h.gr,fun d a=>?_,?_⟩
 · rcases n5.1 a with a|a
   · exact h.ok d a
   · rw[ags.1 a];exact⟨fun g=>(by cases g),fun _=>⟨rfl,e⟩⟩
 · rw[H9];have:bls [(⟨false,b,y,[]⟩:DB)]=[]:=rfl;rw[this,List.append_nil];exact h.nodup
theorem ah5{M:Nat→Prop}{f w:World}{o:aA}{ι:Env}{s:AS}{B:List DB}{b:ab}{n:Int}{x:Value}(c:FI M f o B)(m:HS M o w ι s)(Y:look 72 s.r=some ⟨48,59,B.map DB.fF⟩)(Z:Rel (NN M ι) w ι (.tup [.agg (List.set (aB ({ b with Kids:=[] }:ab)) 58 (.ref 72)),iI n]) x):
   ∃v,Below f.heap.size f w∧QT ({ b with Kids:=B.map DB.plain },n) f w v∧ii v x:=by
 cases Z with
 | tup _ _ vs t z =>
   match vs,t with
   | [p,q],_ =>
     have L:=z 0 _ p rfl rfl;have A:=z 1 _ q rfl rfl;have r:∃y,ι 72=some y∧y.oneCell'=true:=by
       cases L with
       | agg _ _ us W E I =>
         have u:58<us.length:=by rw[←W];show 58<59;omega
         have e:=I 58 (.ref 72) _ (aaZ (show 58<59 by omega)) (jt u);have U:=E _ (ob u);obtain⟨y,r⟩:=eX 72 _ _ _ _ e;exact⟨y,r,by rw[←Ku r _ e];exact U⟩
     obtain⟨y,r,J⟩:=r;obtain⟨Ds',E,Q,R,h4,S,T⟩:=adB m Y (by decide) r ({ b with Kids:=[] }:ab) (fun D F=>⟨fun A=>⟨((c.ok D F).1 A).1,fun g d=>(((c.ok D F).1 A).2 g d).1⟩,(c.ok D F).2⟩) c.nodup;refine⟨.tup [.agg (DB.cells ⟨true,{ b with Kids:=[] },y,Ds'⟩),iI n],⟨m.below.os.trans c.gr.os,m.below.tape.trans c.gr.tape,m.below.output.trans c.gr.output,RX c.gr.size m.below.size,fun k H=>?_⟩,⟨⟨true,{ b with Kids:=[] },y,Ds'⟩,rfl,?_,rfl,R,fun g d=>?_,S⟩,fun N w2 ι2=>.tup _ _ [p,q] rfl fun i a v j l=>?_⟩
     · have X:¬ o.G k:=fun V=>by
         rcases c.gr.O k (.inr V)with e|e
         · exact absurd H (akq.2 e)
         · exact e
       exact(m.below.block k (u7 H c.gr.size) X).trans (c.gr.block k H (fun h=>h) (fun h=>h))
     · show({ b with Kids:=iD Ds' }:ab)=_;rw[E,mL]
     · simp only[DB.bl,n5]at d;rcases d with d|d
       · cases G:bz (some y) with
         | none=>rw[G]at d;cases d
         | some K =>
           rw[G]at d;rw[ags.1 d];obtain⟨O,P⟩:=T K G;rcases c.gr.O K O with C|C
           · exact⟨C,P⟩
           · exact C.elim
       · rw[Q]at d;have e:=c.bl g d;exact⟨e.2,u7 (m.old g e.1).1 m.below.size⟩
     · match i,j,l with
       | 0,j,l =>
         injection j with j;injection l with l;subst j;subst l
         exact KM L (by show 58<59;omega) rfl (Ku r) J N w2 ι2
       | 1,j,l =>
         injection j with j;injection l with l;subst j;subst l
         exact Cc rfl A
abbrev rz(n:Nat):aq:=.c (cat Tryz.f41 (pn n))
abbrev FE:dt:=[.b 0,rz 127]
abbrev GG:dt:=kl (KC M o) (qT f r) FE (cat Tryz.f41 (pn 504)) B::FE
def Yy:AS:=⟨[(0,.sl (lm bp d)),(1,iI j),(4,.ptr 4 0),(6,.ptr 6 0),(7,.int .u8 ((gD d v2).Depth)),(8,.bool u),(60,.bool z)],[(4,List.set (aB c9) 58 (.nils)),(6,List.set (aB ({ c9 with Kind:=1,Node:=(aa (10+v2)),Style:=(gD d v2).Style }:ab)) 58 (.ref 72))],[(72,⟨48,59,lm DB.fF t⟩)],[4,6,72]⟩
def Pc:AS:=⟨[(0,.sl (lm bp d)),(1,iI j),(4,.ptr 4 0),(6,.ptr 6 0),(7,.int .u8 ((gD d v2).Depth)),(8,.bool u)],[(4,List.set (aB c9) 58 (.nils)),(6,List.set (aB ({ c9 with Kind:=1,Node:=(aa (10+v2)),Style:=(gD d v2).Style }:ab)) 58 (.ref 72))],[(72,⟨48,59,lm DB.fF t⟩)],[4,6,72]⟩
def aei:AS:=⟨[(0,.sl (lm bp d)),(1,iI (aa (v2+1))),(4,.ptr 4 0),(6,.ptr 6 0),(7,.int .u8 ((gD d v2).Depth)),(8,.bool u)],[(4,List.set (aB c9) 58 (.nils)),(6,List.set (aB ({ c9 with Kind:=1,Node:=(aa (10+v2)),Style:=(gD d v2).Style }:ab)) 58 (.nils))],[],[4,6]⟩
abbrev Ju:Prop:=∀{M:Nat→Prop} {o:aA} {j:Int} {t:(List DB)},FI M f o t→A j (t.map DB.plain)=some r→LP (KC M o) (qT f r) FE (cat Tryz.f41 (pn 504)) B (Pc d v2 u j t)
def KD(K:Kn):Prop:=∀{l:h7} {a:Int} {r:ab×Int},K.kW l a=some r→xi bb 41 [.sl (lm bp l),iI a] (QT r)
variable{M f o r d v2 u j t z B A}{K:Kn}{n:Nat}
theorem TH(U:KD K)(C:Ju f r d v2 u B A)(H:FI M f o t)(h:ng K n d v2 u j (t.map DB.plain) A z=some r):GW M f o r (rz 2017::rz 1009::GG M f o r B) (Yy d v2 u j t z):=by
 unfold ng at h;obtain⟨a,h⟩|⟨a,h⟩:=am h
 ·refine ah 60 a (b8 (ks':=rz 8073::rz 4037 :: .b 1::GG M f o r B) 6 ?_);obtain⟨b,h⟩|⟨b,h⟩:=am h
  ·refine ah 61 b (av 4 5 2 (ai 2 ?_));obtain⟨Q,G,h⟩:=bind_some h;refine Ml (U G) (fun v w b2 W V P hG J=>?_);obtain⟨⟨nd,c,i,e⟩,E,O,Y,N,D,L⟩:=W;simp only at E;subst E;subst Y;refine⟨fun g=>g∈(⟨true,c,i,e⟩:DB).bl,D,?_⟩;have I:=H.add V P J rfl N D L;refine ac (av 2 3 1 (ai 3 (au (gq DB.fF ([⟨true,c,i,e⟩]:List DB) (new:=[DB.cells ⟨true,c,i,e⟩]) rfl) ?_)));obtain⟨p,h⟩:=aF h;rw[nx]at p;refine au (cG 72 72 48 59 DB.fF (rfl) (DB.P7) (M:=[⟨true,c,i,e⟩]) p) (ac ?_);have F:A Q.2 ((t++[(⟨true,c,i,e⟩:DB)]).map DB.plain)=some r:=by rw[IF,q6,yk,O];exact h
   exact ag 5 (bn (C I F))
  ·refine ah 61 b (fq 2 3 3 (bK [0,1,4,6,7,8] [4,6] [72] ?_));obtain⟨q,h⟩:=aF h;obtain⟨s,h⟩:=aF h;obtain⟨y,h⟩:=aF h;rw[nx]at y;have F:A (aa (j+1)) ((t++[(⟨false,({ c9 with Kind:=3,Style:=(gD d j).Style,Text:=(gD d j).Text }:ab),.nilIface,[]⟩:DB)]).map DB.plain)=some r:=by rw[IF];exact h
   exact bQ 2 (nu 75 [.ptr 6 58,.ref 72,.sl (lm bp d),iI j,.cptr (bp (gD d j)),.cptr (List.drop 5 (bp (gD d j))),.agg (aH ((gD d j).Style)),.sl (lm bp d),iI j,.cptr (bp (gD d j)),.cptr (List.drop 2 (bp (gD d j))),.str ((gD d j).Text),.agg (List.set (aB ({ c9 with Kind:=3,Style:=(gD d j).Style,Text:=(gD d j).Text }:ab)) 58 (.nils)),.sl (lm DB.fF [(⟨false,({ c9 with Kind:=3,Style:=(gD d j).Style,Text:=(gD d j).Text }:ab),.nilIface,[]⟩:DB)])]++nu 90 [.ptr 6 58]) [] [] [gA 89 72 ⟨48,59,lm DB.fF (t++[(⟨false,({ c9 with Kind:=3,Style:=(gD d j).Style,Text:=(gD d j).Text }:ab),.nilIface,[]⟩:DB)])⟩,cf bb 95 Tryz.f41 (pn 8074) 16] (ax [.v 0 2,.v 0 1,.v 0 2,.v 0 2] (aj (gV (lo:=0) (k:=2) (dZ ⟨(by kernel_rfl),(d8 (bE bp bp q (eH) aT) (by kernel_rfl))⟩ (dZ ⟨(by kernel_rfl),(d8 (bE bp bp q (eH) aT) (by kernel_rfl))⟩ iw))) (ax [.v 0 2,.v 0 2,.v 0 2,.v 0 2] (aj (gV (lo:=0) (k:=2) (dZ ⟨(by kernel_rfl),(d8 (bE bp bp s (eH) aT) (by kernel_rfl))⟩ (dZ ⟨(by kernel_rfl),(d8 (bE bp bp s (eH) aT) (by kernel_rfl))⟩ iw))) (ax [.v 0 2,.v 0 2,.v 0 2] (bi (gq DB.fF ([⟨false,({ c9 with Kind:=3,Style:=(gD d j).Style,Text:=(gD d j).Text }:ab),.nilIface,[]⟩]:List DB) (new:=[DB.fF ⟨false,({ c9 with Kind:=3,Style:=(gD d j).Style,Text:=(gD d j).Text }:ab),.nilIface,[]⟩]) rfl) (aj (dr (m:=0) (cG 89 72 48 59 DB.fF (rfl) (DB.P7) (M:=[(⟨false,({ c9 with Kind:=3,Style:=(gD d j).Style,Text:=(gD d j).Text }:ab),.nilIface,[]⟩:DB)]) y)) (ax [.v 1 1] (aj (ce 1) bN))))))))) (ag 2 (bn (C (H.txt (by show(3:Int)≠1;omega)) F)))
 ·refine ah 60 a (aL 8 ?_);cases h;refine ur (l:=[.agg (List.set (aB ({ (⟨1,(aa (10+v2)),(gD d v2).Style,⟨#[]⟩,0,0,[]⟩:ab)with Kids:=[] }:ab)) 58 (.ref 72)),iI j]) (by kernel_rfl) (fun w ι x X Z=>?_);obtain⟨v,R,S,T⟩:=ah5 H X (by kernel_rfl) Z;exact⟨x,v,rfl,R,S,T⟩
theorem aa9(e:KD K)(b:Ju f r d v2 u B A)(g:FI M f o t)(h:nS K n d v2 u A j (t.map DB.plain)=some r):GW M f o r (rz 504::GG M f o r B) (Pc d v2 u j t):=by
 unfold nS at h;refine cc 4 5 3 2 (ai 2 (au (bA bp d) (aQ 5 2 ?_)));obtain⟨a,h⟩|⟨a,h⟩:=am h
 ·refine aD 52 a (aQ 7 2 ?_);obtain⟨c,h⟩:=aF h;exact au (bE bp bp c (eH) aT) (ac (ag 0 (TH e b g h)))
 ·exact aD 52 a (ac (ag 0 (TH e b g h)))
theorem afe(b:KD K)(m:Nat):Ju f r d v2 u m (lz K n d v2 u m):=by
 induction m with
 | zero=>intro M o j t a h;cases h
 | succ m c=>intro M o j t a h;have h:nS K n d v2 u (lz K n d v2 u m) j (t.map DB.plain)=some r:=h;exact bh (aa9 b c a h)
theorem IX(a:KD K)(b:FI M f o [])(h:nZ K n d v2 u=some r):GW M f o r [rz 63] (aei d v2 u):=by
 unfold nZ at h;exact gn 4 0 3 2 (bK [0,1,4,6,7,8] [4,6] [] (Ed 72 6 58 48 59 (ag 0 (cd (p:=pn 252) n (afe a n b h)))))
theorem ahZ(e:KD K)(h:n4 K n d v2=some r):xi bb 41 [.sl (lm bp d),iI v2] (QT r):=by
 refine Zk (c:=cat Tryz.f41 (pn 1)) Tryz.func41 (by kernel_rfl) _ Tryz.ntmps41 (kc (by kernel_rfl)) fun M f=>?_;have g:FI M f (mi f) []:=⟨.refl _ _,fun D m=>(by cases m),List.nodup_nil⟩;refine bd ⟨[(0,.sl (lm bp d)),(1,iI v2)],[],[],[]⟩ ?_;unfold n4 at h;refine av 6 7 3 (ai 4 ?_);obtain⟨i,h⟩:=aF h;refine au (bE bp bp i (eH) aT) (ac (av 2 3 1 (ai 2 ?_)));obtain⟨j,h⟩:=aF h;refine au (bE bp bp j (eH) aT) (ac (av 6 7 3 (ai 2 (au (bA bp d) (aQ 5 2 ?_)))));obtain⟨a,h⟩|⟨a,h⟩:=am h
 ·refine aD 30 a (aQ 7 2 ?_);obtain⟨k,h⟩:=aF h;refine au (bE bp bp k (eH) aT) (aQ 14 6 ?_);obtain⟨b,h⟩|⟨b,h⟩:=am h
  ·refine aD 39 b (aQ 16 2 ?_);obtain⟨l,h⟩:=aF h;exact au (bE bp bp l (eH) aT) (ac (ag 0 (IX e g h)))
  ·exact aD 39 b (ac (ag 0 (IX e g h)))
 ·exact aD 30 a (ac (ag 0 (IX e g h)))
theorem Mb:∀(m:Nat) {l:h7} {a:Int} {r:ab×Int},kN K n m l a=some r→xi bb 41 [.sl (lm bp l),iI a] (QT r)
 | 0,_,_,_,h=>by cases h
 | m+1,l,a,r,h=>ahZ (K:={ K with kW:=kN K n m }) (fun h=>Mb m h) h
end
theorem UX{f:ab→Option ab}:∀{l m:d4},kM f l=some m→m.length=l.length∧∀(j:Nat) (k:ab),l[j]?=some k→∃a,m[j]?=some a∧(if (k.Kind == 1)=true then f k else some k)=some a
 | [],m,h=>by injection h with h;subst h;exact⟨rfl,fun j k i=>by simp at i⟩
 | k::r,m,h=>by
   obtain⟨a,e,h⟩:=bind_some h;obtain⟨n,g,h⟩:=bind_some h;injection h with h;subst h
   obtain⟨c,d⟩:=UX g;refine⟨by simp[c],fun j q b=>?_⟩;cases j with
   | zero=>simp at b;subst b;exact⟨a,rfl,e⟩
   | succ j=>simpa using d j q (by simpa using b)
theorem UP:∀{l:List DB} {i j:Nat} {a b:DB} {g:Nat},(bls l).Nodup→i≠j→l[i]?=some a→l[j]?=some b→g∈a.bl→g∈b.bl→False
 | [],i,j,a,b,g,_,_,h,_,_,_=>by simp at h
 | d::r,i,j,a,b,g,q,f,c,k,m,n=>by
   have o:(d.bl++bls r).Nodup:=q;obtain⟨t,s,p⟩:=ale.1 o;cases i with
   | zero =>
     cases j with
     | zero=>exact f rfl
     | succ j =>
       simp at c k;subst c;exact p g m g (kG.2 ⟨b,mm k,n⟩) rfl
   | succ i =>
     cases j with
     | zero =>
       simp at c k;subst k;exact p g n g (kG.2 ⟨a,mm c,m⟩) rfl
     | succ j=>exact UP (i:=i) (j:=j) s (fun e=>f (by omega)) (by simpa using c) (by simpa using k) m n
structure DI(M:Nat→Prop)(w0:World)(y:Value)(b':aA)(Ds X:List DB):Prop where
 gr:fQ (fun g=>g∈bls Ds) (mO w0 700 y) b'
 ok:∀D∈X,dN b'.w D
 sub:∀g∈bls Ds,M g
 bl:X.map DB.bl=Ds.map DB.bl
theorem DI.bls{M:Nat→Prop}{c:World}{y:Value}{b:aA}{a X:List DB}(h:DI M c y b a X):bls X=bls a:=by rw[pG,pG,h.bl]
theorem DI.put{M:Nat→Prop}{w:World}{y:Value}{l n:aA}{f X:List DB}(h:DI M w y l f X)(z:(Go.Proofs.YtocgkfoifehcbaaGreat.bls f).Nodup){i:Nat}{D m:DB}(c:X[i]?=some D)(x:∀k,M k→k<l.w.heap.size∧¬ l.G k)(v:fQ (fun g=>g∈D.bl) l n)(t:dN n.w m)(p:m.bl=D.bl):DI M w y n f (X.set i m):=by
 have d:∀g∈D.bl,g∈Go.Proofs.YtocgkfoifehcbaaGreat.bls f:=fun g q=>by rw[←h.bls];exact kG.2 ⟨D,mm c,q⟩
 refine⟨h.gr.trans (v.mono d),fun u o=>?_,h.sub,?_⟩
 · obtain⟨j,a⟩:=akW o;by_cases e:i=j
   · subst e;rw[aaZ (jf.1 c).1]at a;injection a with a;subst a;exact t
   · rw[aca e]at a;refine (h.ok u (mm a)).bZ fun g b=>?_;have r:g∈Go.Proofs.YtocgkfoifehcbaaGreat.bls X:=kG.2 ⟨u,mm a,b⟩;have:=x g (h.sub g (by rw[←h.bls];exact r));exact v.block g this.1 this.2 (fun s=>UP (by rw[h.bls];exact z) e c a s b)
 · rw [←h.bl,List.map_set,p];exact akK fun k=>by
     rw[aky];split
     · rename_i e;subst e;have:=(jf.1 c).1;rw[nx,lc this,AT,c];rfl
     · rfl
theorem CQ{M:Nat→Prop}{f w:World}{o:aA}{ι:Env}{s:AS}{n X:List DB}{b:ab}{y x:Value}(a:DI M f y o n X)(d:HS M o w ι s)(L:look 700 s.r=some ⟨48,59,X.map DB.cells⟩)(C:y.oneCell'=true)(A:Rel (NN M ι) w ι (.agg (List.set (aB ({ b with Kids:=[] }:ab)) 58 (.ref 700))) x):
   w.os=f.os∧w.tape=f.tape∧w.output=f.output∧f.heap.size≤w.heap.size∧(∀k,k<f.heap.size→¬ k∈(⟨true,{ b with Kids:=[] },y,n⟩:DB).bl→w.heap[k]?=f.heap[k]?)∧dN w ⟨true,{ b with Kids:=[] },y,X⟩∧ii (.agg (DB.cells ⟨true,{ b with Kids:=[] },y,X⟩)) x:=by
 have B:ι 700=some y:=(d.pin 700 y (by rw[a.gr.pv];simp[mO])).1;refine⟨d.below.os.trans a.gr.os,d.below.tape.trans a.gr.tape,d.below.output.trans a.gr.output,RX a.gr.size d.below.size,fun k r F=>?_,?_,?_⟩
 · have h:¬ (mO f 700 y).G k:=fun q=>F (Cl q);have t:¬ k∈bls n:=fun J=>F (by simp only [DB.bl,n5]; exact .inr J);have u:¬ o.G k:=fun q=>by
     rcases a.gr.O k (.inr q)with p|p
     · exact absurd r (akq.2 p)
     · exact h p
   exact(d.below.block k (u7 r a.gr.size) u).trans (a.gr.block k r h t)
 · obtain⟨v,xs,l,G,N,H,I⟩:=d.arrs 700 _ L (by rw[B];rfl);rw[B]at l;injection l with l;subst l
   refine .node _ y X xs (by simpa using G) H (fun j D m i c E=>?_) (fun D m=>(a.ok D m).bZ fun g K=>?_)
   · obtain⟨x,A,z⟩:=I j D.cells (by rw[AT,m];rfl) i c E;exact⟨x,A,FZ E (z.flat (by decide))⟩
   · have e:=d.old g (a.sub g (by rw[←a.bls];exact kG.2 ⟨D,m,K⟩));exact d.below.block g e.1 e.2
 · exact KM A (by show 58<59;omega) rfl (Ku B) C
noncomputable section
variable(M:Nat→Prop)(c:World)(d:aA)(l:h7)(b:ab)(y:Value)(a Ds' X:List DB)(v5:Bool)(v6:Int)(f:DB)(o:Nat)
abbrev Ik:Cx:=⟨bb,52,M,d⟩
abbrev qR:=bodyPost bb Tryz.f42 (fun e w'=>∃x,e=.returned x∧w'.os=c.os∧w'.tape=c.tape∧w'.output=c.output∧c.heap.size≤w'.heap.size∧(∀k,k<c.heap.size→¬ k∈(⟨true,{ b with Kids:=[] },y,a⟩:DB).bl→w'.heap[k]?=c.heap[k]?)∧dN w' f∧ii (.agg (DB.cells f)) x)
abbrev VgR(e:dt)(s:AS):=VE (Ik M d) (qR c b y a f) e .normal s
abbrev iy(n:Nat):aq:=.c (cat Tryz.f42 (pn n))
abbrev RR:dt:=[.b 0,iy 15]
abbrev TR:dt:=kl (Ik M d) (qR c b y a f) RR (cat Tryz.f42 (pn 116)) o::RR
def sR:AS:=⟨[(1,.sl (lm bp l)),(2,.ptr 2 0),(4,.ptr 4 0),(5,.bool v5),(6,iI v6)],[(2,List.set (aB ({ b with Kids:=[] }:ab)) 58 (.ref 700)),(4,List.set (aB c9) 58 (.nils))],[(700,⟨48,59,lm DB.cells X⟩)],[2,4,700,1000700,700]⟩
variable{M c d l b y a Ds' X v5 v6 f o}
theorem ad9(s:DI M c y d a X)(e:y.oneCell'=true){z:ab}(t:f=⟨true,{ z with Kids:=[] },y,X⟩)(h:jD l b [] v5=some z):VgR M c d b y a f [iy 15] (sR l b X v5 v6):=by
 refine b8 (ks':=[iy 30,iy 31]) 1 (ai 4 (ac ?_));cases v5 with
 | false =>
   unfold jD at h;have p:=ala h;subst p;subst t;refine aL 8 ?_;refine ur (l:=[.agg (List.set (aB ({ b with Kids:=[] }:ab)) 58 (.ref 700))]) (by kernel_rfl) (fun w ι x q r=>?_);obtain⟨g,i,j,k,m,n,o⟩:=CQ s q (by kernel_rfl) e r;exact⟨x,rfl,g,i,j,k,m,n,o⟩
 | true =>
   unfold jD at h;refine b8 (ks':=[iy 124,iy 125,iy 63]) 2 (ai 4 ?_);obtain⟨u,h⟩|⟨u,h⟩:=am h
   · refine aD 39 u ?_;refine aQ 8 4 ?_;obtain⟨A,h⟩:=aF h;refine au (bE bp bp A (eH) aT) (aQ 13 4 ?_);obtain⟨v,h⟩|⟨v,h⟩:=am h
     · refine aD 48 v ?_;refine ac ?_;have p:=ala h;subst p;subst t;refine aL 5 ?_;refine ur (l:=[.agg (List.set (aB ({ ({ b with Kind:=6 }:ab)with Kids:=[] }:ab)) 58 (.ref 700))]) (by kernel_rfl) (fun w ι x q r=>?_);obtain⟨g,i,j,k,m,n,o⟩:=CQ (b:={ b with Kind:=6 }) s q (by kernel_rfl) e r;exact⟨x,rfl,g,i,j,k,m,n,o⟩
     · refine aD 48 v ?_;refine ac ?_;have p:=ala h;subst p;subst t;refine aL 5 ?_;refine ur (l:=[.agg (List.set (aB ({ b with Kids:=[] }:ab)) 58 (.ref 700))]) (by kernel_rfl) (fun w ι x q r=>?_);obtain⟨g,i,j,k,m,n,o⟩:=CQ s q (by kernel_rfl) e r;exact⟨x,rfl,g,i,j,k,m,n,o⟩
   · refine aD 39 u ?_;refine ac ?_;have p:=ala h;subst p;subst t;refine aL 5 ?_;refine ur (l:=[.agg (List.set (aB ({ b with Kids:=[] }:ab)) 58 (.ref 700))]) (by kernel_rfl) (fun w ι x q r=>?_);obtain⟨g,i,j,k,m,n,o⟩:=CQ s q (by kernel_rfl) e r;exact⟨x,rfl,g,i,j,k,m,n,o⟩
def Cv(l:h7)(D a:DB):Prop:=a.bl=D.bl∧((D.b.Kind == 1)=true→rC bb 42 [.agg D.cells,.sl (lm bp l)] (fun g=>g∈D.bl) (fun w=>dN w D) (.agg a.cells) (fun w=>dN w a))∧((D.b.Kind == 1)=false→a=D)
structure Mx(a Ds' X:List DB)(i:Nat)(v5:Bool):Prop where
 len:X.length=a.length
 le:i≤a.length
 lo:∀j,j<i→X[j]?=Ds'[j]?
 hi:∀j,i≤j→X[j]?=a[j]?
 blocks:v5=(a.take i).any fun D=>D.b.Kind == 1
theorem afd(hn:(bls a).Nodup)(U:Ds'.length=a.length)(P:∀(j:Nat) (D t:DB),a[j]?=some D→Ds'[j]?=some t→Cv l D t)(F:a.length≤maxLen)(R:y.oneCell'=true){S:ab}(hz:f=⟨true,{ S with Kids:=[] },y,Ds'⟩)(h:jD l b [] (a.any fun D=>D.b.Kind == 1)=some S):
   ∀(m:Nat) {M:Nat→Prop} {d:aA} {X:List DB} {i:Nat} {v5:Bool} {v6:Int},v6=(i:Int)→Mx a Ds' X i v5→DI M c y d a X→a.length<m+i→LP (Ik M d) (qR c b y a f) RR (cat Tryz.f42 (pn 116)) m (sR l b X v5 v6):=by
 intro m
 induction m with
 | zero=>intro M d X i v5 v6 _ n _ hm;have:=n.le;omega
 | succ m V =>
   intro M d X i v5 v6 T n B hm;refine bh (b8 (ks':=iy 464::iy 465::iy 233::TR M c d b y a f m) 2 (ai 3 (au (bA DB.cells X) (aQ 5 1 ?_))));by_cases q:i<a.length
   · have u:decide (v6<(X.length:Int))=true:=aji (by rw [n.len]; omega);refine aD 12 u (ac ?_);have r:=n.hi i (ll _);have p:a[i]?=some (a[i]'q):=jt q;have o:Ds'[i]?=some (Ds'[i]'(by omega)):=jt _;generalize a[i]'q=D at p;generalize Ds'[i]'(by omega:i<Ds'.length)=t at o;rw [p] at r;have s:X.getD v6.toNat default=D:=by
       rw[T,rl,Int.toNat_natCast,r];rfl
     have k:aP v6 X.length=true:=by
       unfold aP;rw[iN];exact⟨aji (by omega),aji (by rw[n.len];omega)⟩
     have I:aa (v6+1)=((i+1:Nat):Int):=by
       rw[T];unfold maxLen at F;have:(0:Int)≤(i:Int)+1∧(i:Int)+1<9223372036854775808:=by omega
       unfold aa;rw[akR];omega
     obtain⟨t1,t2,t3⟩:=P i D t p o;refine b8 (ks':=iy 1864::iy 1865 :: .b 1::iy 467::TR M c d b y a f m) 5 (ai 3 (au (ct 700 59 DB.cells k) (aQ 5 1 (au (bO 3 0 DB.cells DB.cells (bH k).2 aT) (ac ?_)))));cases A:(D.b.Kind == 1) with
     | true =>
       have v:((X.getD v6.toNat default).b.Kind == 1)=true:=by rw[s];exact A
       refine ah 21 v (b8 (ks':=iy 7461 :: .b 1::iy 467::TR M c d b y a f m) 3 (bK [1,2,4,5,6] [2,4] [700] ?_));have H:rC bb 42 [.agg (X.getD v6.toNat default).cells,.sl (lm bp l)] (fun g=>g∈D.bl) (fun w=>dN w D) (.agg t.cells) (fun w=>dN w t):=by rw[s];exact t2 A
       have G:∀g∈D.bl,g∈bls a:=fun g C=>kG.2 ⟨D,mm p,C⟩;refine ae3 9 31 [(22,.ptr 2 58),(23,.ref 700),(24,iI v6),(25,.ptr 2 58),(26,.ref 700),(27,iI v6),(28,.eptr 700 59 v6.toNat 0),(29,.agg (X.getD v6.toNat default).cells),(30,.sl (lm bp l))] H (fun g C=>B.sub g (G g C))
         (fun w _ I=>(B.ok D (mm r)).bZ I)
         (ax (vz 6) (bi (ct 700 59 DB.cells (L:=X) (i:=v6) k) (bi (bO 48 0 DB.cells DB.cells (bH k).2 aT) (ax [.v 0 1] EP))))
         (ax (vz 6) (bi (ct 700 59 DB.cells (L:=X) (i:=v6) k) (bi (bO 48 0 DB.cells DB.cells (bH k).2 aT) (ax [.v 0 1] EP))))
         (fun W C Z Y=>?_)
       have K:=B.put hn r Y C Z t1;refine au (ct 700 59 DB.cells k) (au (dC 700 48 59 0 DB.cells DB.cells t (bH k).2 aT) (ac ?_));have x:Mx a Ds' (List.set X v6.toNat t) (i+1) true:=by
         have z:v6.toNat=i:=by omega
         rw[z];refine⟨by rw[akz];exact n.len,q,fun j E=>?_,fun j E=>?_,?_⟩
         · rw[aky];split
           · rename_i e;subst e;rw[lc (by rw[n.len];exact q),o]
           · exact n.lo j (by omega)
         · rw[aca (by omega)];exact n.hi j (by omega)
         · symm;rw[adz];exact⟨D,mm (i:=i) (by rw[In,lc (by omega)];exact p),A⟩
       have N:DI M c y W a (List.set X v6.toNat t):=by
         have z:v6.toNat=i:=by omega
         rw[z];exact K
       exact ag 2 (bn (V (v6:=aa (v6+1)) I x N (by omega)))
     | false =>
       have v:((X.getD v6.toNat default).b.Kind == 1)=false:=by rw[s];exact A
       refine ah 21 v ?_;have x:Mx a Ds' X (i+1) v5:=by
         refine⟨n.len,q,fun j E=>?_,fun j E=>n.hi j (by omega),?_⟩
         · by_cases e:j=i
           · subst e;rw[r,o,t3 A]
           · exact n.lo j (by omega)
         · rw[n.blocks,List.take_succ,p,List.any_append];simp[A]
       exact ag 4 (bn (V (v6:=aa (v6+1)) I x B (by omega)))
   · have u:decide (v6<(X.length:Int))=false:=decide_eq_false (by rw[n.len];omega);refine aD 12 u (ac ?_);have O:i=a.length:=by have:=n.le;omega
     have J:X=Ds':=akK fun j=>by
       by_cases E:j<i
       · exact n.lo j E
       · rw[n.hi j (by omega),akV (by omega),akV (by omega)]
     have Q:v5=a.any fun D=>D.b.Kind == 1:=by rw[n.blocks,O,aka]
     subst J;rw[←Q]at h;exact ag 5 (ad9 (v6:=v6) B R hz h)
end
theorem ab8{l:h7}{b a:ab}{q f:d4}{c:Bool}(h:jD l { b with Kids:=q } f c=some a):jD l b [] c=some { a with Kids:=[] }∧a.Kids=f:=by
 unfold jD at h⊢;cases c with
 | false=>injection h with h;subst h;exact⟨rfl,rfl⟩
 | true =>
   simp only at h⊢;split at h
   · rename_i d;rw[lc d];obtain⟨g,h⟩:=aF h;rw[g];simp only[aE];split at h
     · rename_i e;rw[lc e];injection h with h;subst h;exact⟨rfl,rfl⟩
     · rename_i e;rw[kb e];injection h with h;subst h;exact⟨rfl,rfl⟩
   · rename_i d;rw[kb d];injection h with h;subst h;exact⟨rfl,rfl⟩
theorem TC(D:DB):D.plain.Kind=D.b.Kind:=by rw[DB.QK]
theorem VG{N:Nat→Prop}{w:World}{ι:Env}{l:c6}{c d:AV}{x:Value}{q:Nat}(h:Rel N w ι (.agg (l.set q c)) x)(j:q<l.length)(o:∀v,Rel N w ι c v→Rel N w ι d v):Rel N w ι (.agg (l.set q d)) x:=by
 cases h with
 | agg _ _ vs f n k =>
   refine .agg _ _ vs (by simpa using f) n fun i a v b m=>?_;by_cases g:i=q
   · subst g;rw[aaZ j]at b;injection b with b;subst b
     exact o v (k i c v (aaZ j) m)
   · rw[aca (fun e=>g e.symm)]at b;exact k i a v (by rw[aca (fun e=>g e.symm)];exact b) m
theorem Uz:∀{l:List DB},(bls l).Nodup→∀{D:DB},D∈l→D.bl.Nodup
 | [],_,D,a=>by cases a
 | d::r,h,D,a=>by
   have b:(d.bl++bls r).Nodup:=h;obtain⟨c,e,_⟩:=ale.1 b;rcases oR.1 a with rfl|a
   · exact c
   · exact Uz e a
noncomputable section
theorem N3:∀(m:Nat) {l:h7} {D:DB} {F:ab},iJ l m D.plain=some F→D.nd=true→(∃w,dN w D)→D.bl.Nodup →
   ∃o:DB,o.plain=F∧o.bl=D.bl∧rC bb 42 [.agg D.cells,.sl (lm bp l)] (fun g=>g∈D.bl) (fun w=>dN w D) (.agg o.cells) (fun w=>dN w o)
 | 0,_,_,_,h,_,_,_=>by cases h
 | m+1,l,⟨nd,b,y,d⟩,F,h,S,⟨w1,p0⟩,hn=>by
   simp only at S;subst S;have h:(kM (iJ l m) (iD d)).bind (fun X=>jD l { b with Kids:=iD d } X ((iD d).any fun k=>k.Kind == 1))=some F:=h;obtain⟨X,l0,h⟩:=bind_some h;obtain⟨K,Z⟩:=ab8 h;obtain⟨g1,g2⟩:=UX l0;have L:((iD d).any fun k=>k.Kind == 1)=d.any fun D=>D.b.Kind == 1:=by
     rw[mL,List.any_map];congr 1;funext D;show(D.plain.Kind == 1)=_;rw[TC]
   rw[L]at K;cases p0 with
   | node _ _ _ xs I q0 i0 B =>
   have G:(bls d).Nodup:=by
     have:(⟨true,b,y,d⟩:DB).bl.Nodup:=hn;simp only[DB.bl]at this;exact(ale.1 this).2.1
   have T:∀g∈bls d,bz (some y)≠some g:=fun g J e=>by
     have h9:(⟨true,b,y,d⟩:DB).bl.Nodup:=hn;simp only[DB.bl,e]at h9;exact(List.nodup_cons.1 h9).1 J
   have step:∀(j:Nat) (D:DB),d[j]?=some D→∃o:DB,Cv l D o∧X[j]?=some o.plain:=fun j D s=>by
     obtain⟨k',r,t⟩:=g2 j D.plain (by rw[mL,AT,s];rfl);rw[TC]at t;have C:=mm s;cases U:(D.b.Kind == 1) with
     | true =>
       rw[U]at t;have g0:D.nd=true:=by
         have hk:=B D C;cases hk with
         | leaf b0 y0 h0 A0 c0 r0=>exact absurd (by simpa using U) h0
         | node b0 y0 k0 x0=>rfl
       have f0:D.bl.Nodup:=Uz G C;obtain⟨o,q1,q2,q3⟩:=N3 m (by simpa using t) g0 ⟨w1,B D C⟩ f0;exact⟨o,⟨q2,fun _=>q3,fun hf=>by rw[U]at hf;cases hf⟩,by rw[r,q1]⟩
     | false =>
       rw[U]at t;have Y:D.plain=k':=by simpa using t
       exact⟨D,⟨rfl,fun ht=>(by rw[U]at ht;cases ht),fun _=>rfl⟩,by rw[r,Y]⟩
   obtain⟨Ds',Q,u⟩:=Jh (P:=fun j (D o:DB)=>Cv l D o∧X[j]?=some o.plain) d 0 (fun j D s=>by rw[Dy];exact step j D s);have o0:∀(j:Nat) (D o:DB),d[j]?=some D→Ds'[j]?=some o→Cv l D o:=fun j D o s e0=>by
     obtain⟨D2,r,t,_⟩:=u j D s;rw[e0]at r;injection r with r;subst r;exact t
   have m0:iD Ds'=X:=by
     rw[mL];refine akK fun j=>?_;rw[AT];by_cases hj:j<d.length
     · obtain⟨D2,r,_,Y⟩:=u j _ (jt hj);rw[Dy]at Y;rw[r,Y];rfl
     · rw[akV (by omega),akV (by rw[g1,mL,nx];omega)];rfl
   have O:bls Ds'=bls d:=by
     rw[pG,pG,DR (f:=DB.bl) (g:=DB.bl) Q fun j a z=>by obtain⟨D2,r,t,_⟩:=u j a z;exact⟨D2,r,t.1⟩]
   have W:∃A n c,y=.slice A n c:=by
     rcases I.2 with⟨e,_⟩|⟨g,a0,d0,e,_⟩
     · exact⟨_,_,_,e⟩
     · exact⟨_,_,_,e⟩
   have R:d.length≤maxLen:=by
     rcases I.2 with⟨_,e⟩|⟨g,a0,d0,_,_,_,r,t,_⟩
     · rw[e];exact u6 _
     · exact RX r t
   have V:y.oneCell'=true:=by obtain⟨A,n,c,rfl⟩:=W;rfl
   have H:(aB ({ b with Kids:=[] }:ab)).length=59:=rfl;refine⟨⟨true,{ F with Kids:=[] },y,Ds'⟩,?_,?_,?_⟩
   · show({ F with Kids:=iD Ds' }:ab)=F;rw[m0];subst Z;cases F;rfl
   · simp only[DB.bl,O]
   refine aij (id0:=700) (v0:=y) (ar:=⟨48,59,d.map DB.cells⟩) (args':=[.agg (List.set (aB ({ b with Kids:=[] }:ab)) 58 (.ref 700)),.sl (lm bp l)]) (c:=cat Tryz.f42 (pn 1)) Tryz.func42 (by kernel_rfl) _ Tryz.ntmps42 (kc (by kernel_rfl)) rfl (fun g J=>Cl J) (fun w hw=>?_) (fun N w i a b9 x z E hr=>?_) (fun M w hM hw=>?_)
   · cases hw with
     | node _ _ _ xs K Z h3 h4 =>
       refine⟨xs,by simpa using K,fun e he=>?_,Z,fun j e he i c hc=>?_⟩
       · obtain⟨D,_,rfl⟩:=BY.1 he;exact DB.ajq D
       · have q:(d.map DB.cells)[j]?=some e:=he;rw[AT]at q;cases s:d[j]? with
         | none=>rw[s]at q;cases q
         | some D=>rw[s]at q;injection q with q;subst q;exact h3 j D s i c hc
   · match i,z,E with
     | 0,z,E =>
       injection z with z;injection E with E;subst z;subst E
       have hp:=KM (y:=y) (show Rel N w bG (.agg (List.set (aB ({ b with Kids:=[] }:ab)) 58 (.vv y))) x from hr) (by rw[H];omega) rfl (fun v hv=>by cases hv;rfl) V;refine VG (hp N w (ext bG 700 y)) (by rw[H];omega) (fun v hv=>?_);cases hv;obtain⟨A,n,c,rfl⟩:=W;exact .ref _ _ _ _ _ (cI _ _ _)
     | 1,z,E =>
       injection z with z;injection E with E;subst z;subst E
       exact hr.pure rfl _
   · have hf:DI M w y (mO w 700 y) d d:=⟨.refl _ _,fun D s=>(by cases hw with|node _ _ _ xs K Z h3 h4=>exact h4 D s),fun g J=>hM g (by simp only[DB.bl,n5];exact .inr J) (T g J),rfl⟩;exact bd ⟨[(0,.agg (List.set (aB ({ b with Kids:=[] }:ab)) 58 (.ref 700))),(1,.sl (lm bp l))],[],[(700,⟨48,59,d.map DB.cells⟩)],[700,1000700]⟩ (ag 8 (cd (p:=pn 58) (d.length+1) (afd (Ds':=Ds') (b:=b) (v6:=0) (v5:=false) (i:=0) G Q o0 R V rfl K (d.length+1) rfl ⟨rfl,u6 _,fun j hj=>absurd hj (Nat.not_lt_zero _),fun j _=>rfl,rfl⟩ hf (by omega))))
section
variable(M:Nat→Prop)(c:aA)(r:ab)(a X:h7)(v4:Int)(d:Nat)
abbrev FV:Cx:=⟨bb,36,M,c⟩
abbrev qS:=bodyPost bb Tryz.f13 (bJ M c (fun v _=>v=.agg (aB r)))
abbrev Zn(a:dt)(s:AS):=VE (FV M c) (qS M c r) a .normal s
abbrev fi(n:Nat):aq:=.c (cat Tryz.f13 (pn n))
abbrev RS:dt:=[.b 0,fi 15]
abbrev TS:dt:=kl (FV M c) (qS M c r) RS (cat Tryz.f13 (pn 116)) d::RS
def sS:AS:=⟨[(0,.sl (lm bp a)),(2,.ptr 2 0),(3,.ref 300),(4,iI v4)],[(2,List.set (aB c9) 58 (.nils))],[(300,⟨37,58,lm bp X⟩)],[2,300]⟩
variable{M c r a X v4 d}{K:Kn}{n:Nat}
theorem XC{t:ab×Int}(hX:X=a.map ft)(S:kN K n n X 0=some t)(L:iJ X n t.1=some r):Zn M c r [fi 15] (sS a X v4):=by
 refine b8 (ks':=[fi 30,fi 31]) 1 (iR 300 (ai 1 ?_));refine Ml (Mb n S) (fun v w b2 W P H hG E=>?_);obtain⟨⟨nd,A,C,B⟩,q,G,I,s,o,F⟩:=W;simp only at q;subst q;subst I;rw[←G]at L;obtain⟨⟨j,e,i,f⟩,q1,Q,q3⟩:=N3 n L rfl ⟨_,s⟩ F;refine⟨fun g=>g∈(⟨true,A,C,B⟩:DB).bl,o,?_⟩;refine ac (b8 (ks':=[fi 62,fi 63]) 1 (ai 2 ?_));refine aaE q3 (fun k y=>.inr y) (fun w _ hw=>s.bZ hw) (fun R hg Y V=>?_);refine ac (aL 1 ?_);refine ur (l:=[.agg (DB.cells ⟨j,e,i,f⟩)]) (by kernel_rfl) (fun w' ι x z hx=>?_);have p:fQ (fun g=>g∈(⟨true,A,C,B⟩:DB).bl) c R:=(E.mono (fun _ h=>h.elim)).trans hg;have O:∀g,g∈(⟨true,A,C,B⟩:DB).bl→c.w.heap.size≤g:=fun g d=>RX H (o g d).1;refine⟨x,.agg (aB r),_,ι,rfl,rfl,z.Zh p O (fun k y=>⟨.inl y,P k y⟩),?_⟩;have u:dN w' ⟨j,e,i,f⟩:=Y.bZ fun g d=>by
   rw[Q]at d;have:=z.old g (.inr d);exact z.below.block g this.1 this.2
 have D:=u.rel (N:=NN M ι) (fun g d m=>by
   rw[Q]at d;rcases m with m|⟨id,m⟩
   · have T:=(P g m).1;have U:=O g d;exact absurd T (akq.2 U)
   · exact z.sep (.inr d) m)
 have J:Rel (NN M ι) w' ι (.agg (DB.cells ⟨j,e,i,f⟩)) x:=hx.mono (ll _) (fun b _ Z=>Z.elim (fun h=>.inl (.inl h)) .inr) (fun _ _ _=>rfl) (fun _ _ h=>h);rw[←d7,← q1,DB.Ou];exact VG J (by show 58<59;omega) (fun v I=>by cases I;exact D.pure rfl _)
theorem XM{t:ab×Int}(d:fits a.length 480=true)(q:kN K n n (a.map ft) 0=some t)(s:iJ (a.map ft) n t.1=some r):
   ∀(m:Nat) {X:h7} {i:Nat} {v4:Int},v4=(i:Int)→X=(a.take i).map ft→i≤a.length→a.length<m+i→LP (FV M c) (qS M c r) RS (cat Tryz.f13 (pn 116)) m (sS a X v4):=by
 have o:a.length≤maxLen:=by
   unfold fits at d;simp only[iN,q7]at d;exact d.1
 intro m
 induction m with
 | zero=>intro X i v4 _ _ q s;omega
 | succ m x =>
   intro X i v4 v j y A;refine bh (b8 (ks':=fi 464::fi 465::fi 233::TS M c r m) 2 (ai 2 (au (bA bp a) (aQ 4 1 ?_))));by_cases f:i<a.length
   · have g:decide (v4<(a.length:Int))=true:=aji (by omega);refine aD 11 g (ac ?_);have l:aP v4 a.length=true:=by
       unfold aP;rw[iN];exact⟨aji (by omega),aji (by omega)⟩
     have w:aa (v4+1)=((i+1:Nat):Int):=by
       rw[v];unfold maxLen at o;unfold aa;rw[akR];omega
     have k:a.getD v4.toNat default=a[i]:=by
       rw[v,rl,Int.toNat_natCast,jt f];rfl
     refine b8 (ks':=fi 1864::fi 1865 :: .b 1::fi 467::TS M c r m) 5 (ai 2 (au (bE bp bp l (eH) aT) (ac (b8 (ks':=fi 7461::fi 3731 :: .b 1::fi 467::TS M c r m) 3 ?_))));have e:X++[ft (a.getD v4.toNat default)]=(a.take (i+1)).map ft:=by
       rw[j,k,List.take_succ,jt f,IF];rfl
     have b:fits (X.length+[ft (a.getD v4.toNat default)].length) 480=true:=by
       have z:X.length=i:=by rw[j,nx,ajN];omega
       unfold fits at d⊢;simp only[iN,q7,List.length_singleton]at d⊢;omega
     cases p:((a.getD v4.toNat default).Style.Position == 2) with
     | true =>
       refine ah 21 p (b8 (ks':=fi 3731 :: .b 1::fi 467::TS M c r m) 2 (ai 2 ?_));have h:ft (a.getD v4.toNat default)={ a.getD v4.toNat default with Style:={ (a.getD v4.toNat default).Style with Position:=0 } }:=by unfold ft;rw[lc p]
       rw[h]at e b;exact au (gq bp [{ a.getD v4.toNat default with Style:={ (a.getD v4.toNat default).Style with Position:=0 } }] (new:=[bp { a.getD v4.toNat default with Style:={ (a.getD v4.toNat default).Style with Position:=0 } }]) rfl) (au (cG 27 300 37 58 bp (rfl) (eH) b) (ac (ag 2 (bn (x (v4:=aa (v4+1)) w e f (by omega))))))
     | false =>
       refine ah 21 p (b8 (ks':=fi 3731 :: .b 1::fi 467::TS M c r m) 2 (ai 2 ?_));have h:ft (a.getD v4.toNat default)=a.getD v4.toNat default:=by unfold ft;rw[kb (by rw[p];simp)]
       rw[h]at e b;exact au (gq bp [a.getD v4.toNat default] (new:=[bp (a.getD v4.toNat default)]) rfl) (au (cG 27 300 37 58 bp (rfl) (eH) b) (ac (ag 2 (bn (x (v4:=aa (v4+1)) w e f (by omega))))))
   · have g:decide (v4<(a.length:Int))=false:=decide_eq_false (by omega);refine aD 11 g (ac ?_);have u:i=a.length:=by omega
     rw[u,aka]at j;rw[←j]at q s;exact ag 5 (XC (v4:=v4) j q s)
theorem Xy(h:uU K n a=some r):aX bb 13 [.sl (lm bp a)] (fun v _=>v=.agg (aB r)):=by
 unfold uU at h;obtain⟨b,h⟩:=aF h;obtain⟨t,d,e⟩:=bind_some h;exact bF (cat Tryz.f13 (pn 1)) Tryz.func13 Tryz.ntmps13 fun M c=>(bd ⟨[(0,.sl (lm bp a))],[],[],[]⟩ (b8 (ks':=[fi 58,.b 0,fi 15]) 8 (bK [0,2,3,4] [2] [] (eL 300 3 37 58 (ag 0 (cd (p:=pn 58) (a.length+1) (XM b d e (a.length+1) (X:=[]) (i:=0) rfl rfl (u6 _) (by omega))))))))
end
end
theorem acC[GS]{K:Kn}{n:Nat}{a:h7}{r:ab}(b:ao K)(h:uU K n a=some r):aX bb 13 [.sl (lm bp a)] (fun v _=>v=.agg (aB r)):=Xy h
noncomputable section
variable[GS](M:Nat→Prop)(b:aA)(r:Bool)(a v2:ae)(e:Bool)(v6:Int)(c:Nat)(d:Int→Option Bool)
abbrev Ks:Cx:=⟨bb,116,M,b⟩
abbrev EQ:=bodyPost bb Tryz.f16 (bJ M b (fun v _=>v=.bool r))
abbrev LX(a:dt)(s:AS):=VE (Ks M b) (EQ M b r) a .normal s
abbrev Bp(n:Nat):aq:=.c (cat Tryz.f16 (pn n))
abbrev Kz:dt:=[.b 0,Bp 15]
abbrev agG:dt:=kl (Ks M b) (EQ M b r) Kz (cat Tryz.f16 (pn 116)) c::Kz
def QY:AS:=⟨[(2,.ptr 2 0),(3,.ptr 3 0),(5,iI v6)],[(2,aG a),(3,aG v2)],[],[2,3]⟩
def afT:AS:=⟨[(2,.ptr 2 0),(3,.ptr 3 0),(96,.bool e)],[(2,aG a),(3,aG v2)],[],[2,3]⟩
abbrev LS:Prop:=∀{v6:Int},d v6=some r→LP (Ks M b) (EQ M b r) Kz (cat Tryz.f16 (pn 116)) c (QY a v2 v6)
variable{M b r a v2 e v6 c d}{K:Kn}{n:Nat}
theorem aeo(m:ao K)(k:LS M b r a v2 c d)(h:xH K n a v2 d v6=some r):LX M b r (Bp 116::agG M b r c) (QY a v2 v6):=by
 unfold xH at h;refine cc 4 5 3 2 (ai 3 (au (bA aN a.Kids) (ac ?_)));obtain⟨e,h⟩|⟨e,h⟩:=am h
 ·refine ah 101 e (cN 8 9 1 3 5 (bK [2,3,5] [2,3] [] ?_));obtain⟨g,h⟩:=aF h;obtain⟨i,h⟩:=aF h;obtain⟨l,j,h⟩:=bind_some h;refine bQ 0 (nu 104 [.ptr 2 66,.sl (lm aN a.Kids),iI v6,.cptr (aG (gD a.Kids v6)),.agg (aG (gD a.Kids v6)),.ptr 3 66,.sl (lm aN v2.Kids),iI v6,.cptr (aG (gD v2.Kids v6)),.agg (aG (gD v2.Kids v6)),.bool l,.bool (!l)]) [] [] [] (ax (vz 3) (bi (bE aN aG g (jY) (dM)) (ax (vz 4) (bi (bE aN aG i (jY) (dM)) (ax [.v 0 1] (aj (cq 0 1 114 (m.yg j)) (ax [.v 0 1] bN))))))) ?_;obtain⟨f,h⟩|⟨f,h⟩:=am h
  ·refine ah 115 f (aL 9 ?_);cases h;exact bv
  ·exact ah 115 f (ag 4 (bn (k h)))
 ·refine ah 101 e (aL 8 ?_);cases h;exact bv
theorem ZP(c:ao K)(m:Nat):LS M b r a v2 m (sG K n a v2 m):=by
 induction m with
 | zero=>intro v6 h;cases h
 | succ m d=>intro v6 h;have h:xH K n a v2 (sG K n a v2 m) v6=some r:=h;exact bh (aeo c d h)
theorem jE(d:ao K)(h:gX K n a v2 e=some r):LX M b r [Bp 13,Bp 7] (afT a v2 e):=by
 unfold gX at h;obtain⟨c,h⟩|⟨c,h⟩:=am h
 ·refine ah 96 c (aL 5 ?_);cases h;exact bv
 ·exact ah 96 c (ag 6 (cd (p:=pn 58) n (ZP d n h)))
theorem Ub(c:ao K)(h:ra K n a v2=some r):aX bb 16 [.agg (aG a),.agg (aG v2)] (fun v _=>v=.bool r):=by
 refine bF (cat Tryz.f16 (pn 1)) Tryz.func16 Tryz.ntmps16 fun M b=>(bd ⟨[(0,.agg (aG a)),(1,.agg (aG v2))],[],[],[]⟩ ?_);unfold ra at h;refine cc 12 13 7 4 (ai 6 ?_);obtain⟨g,h⟩|⟨g,h⟩:=am h
 ·exact aD 11 g (ac (ag 0 (jE c h)))
 ·refine aD 11 g (aQ 13 7 ?_);obtain⟨i,h⟩|⟨i,h⟩:=am h
  ·exact aD 18 i (ac (ag 0 (jE c h)))
  ·refine aD 18 i (aQ 20 7 ?_);obtain⟨j,h⟩|⟨j,h⟩:=am h
   ·exact aD 25 j (ac (ag 0 (jE c h)))
   ·refine aD 25 j (aQ 27 7 ?_);obtain⟨k,h⟩|⟨k,h⟩:=am h
    ·exact aD 32 k (ac (ag 0 (jE c h)))
    ·refine aD 32 k (aQ 34 7 ?_);obtain⟨l,h⟩|⟨l,h⟩:=am h
     ·exact aD 39 l (ac (ag 0 (jE c h)))
     ·refine aD 39 l (aQ 41 7 ?_);obtain⟨m,h⟩|⟨m,h⟩:=am h
      ·exact aD 46 m (ac (ag 0 (jE c h)))
      ·refine aD 46 m (aQ 48 7 ?_);obtain⟨o,h⟩|⟨o,h⟩:=am h
       ·exact aD 53 o (ac (ag 0 (jE c h)))
       ·refine aD 53 o (aQ 55 7 ?_);obtain⟨p,h⟩|⟨p,h⟩:=am h
        ·exact aD 60 p (ac (ag 0 (jE c h)))
        ·refine aD 60 p (aQ 62 7 ?_);obtain⟨q,h⟩|⟨q,h⟩:=am h
         ·exact aD 67 q (ac (ag 0 (jE c h)))
         ·refine aD 67 q (aQ 69 7 ?_);obtain⟨d,h⟩|⟨d,h⟩:=am h
          ·exact aD 74 d (ac (ag 0 (jE c h)))
          ·refine aD 74 d (aQ 76 7 ?_);obtain⟨e,h⟩|⟨e,h⟩:=am h
           ·exact aD 81 e (ac (ag 0 (jE c h)))
           ·refine aD 81 e (aQ 83 7 ?_);obtain⟨f,h⟩|⟨f,h⟩:=am h
            ·exact aD 88 f (ac (ag 0 (jE c h)))
            ·exact aD 88 f (aQ 85 2 (au (bA aN a.Kids) (aQ 88 2 (au (bA aN v2.Kids) (ac (ag 0 (jE c h)))))))
end
noncomputable section
variable[GS](M:Nat→Prop)(b:aA)(r a:Int)  
variable{M b r a}{K:Kn}{n:Nat}
theorem uu(c:ao K)(h:lO K n a=some r):aX bb 56 [iI a] (fun v _=>v=iI r):=by
 refine bF (cat Tryz.f56 (pn 1)) Tryz.func56 Tryz.ntmps56 fun M b=>(bd ⟨[(0,iI a)],[],[],[]⟩ ?_);unfold lO at h;refine aL 5 ?_;cases h;exact bv
end
noncomputable section
variable[GS](M:Nat→Prop)(b:aA)(r a:Int)  
variable{M b r a}{K:Kn}{n:Nat}
theorem L7(c:ao K)(h:s7 K n a=some r):aX bb 117 [iI a] (fun v _=>v=iI r):=by
 refine bF (cat Tryz.f117 (pn 1)) Tryz.func117 Tryz.ntmps117 fun M b=>(bd ⟨[(0,iI a)],[],[],[]⟩ ?_);unfold s7 at h;refine aL 5 ?_;cases h;exact bv
end
noncomputable section
variable[GS](M:Nat→Prop)(b:aA)(r:Int×Bool)(a:cw)(v2:Int)  
variable{M b r a v2}{K:Kn}{n:Nat}
theorem ju(e:ao K)(h:gy K n a v2=some r):aX bb 58 [.agg (fh a),iI v2] (fun v _=>v=.tup [iI r.1,.bool r.2]):=by
 refine bF (cat Tryz.f58 (pn 1)) Tryz.func58 Tryz.ntmps58 fun M b=>(bd ⟨[(0,.agg (fh a)),(1,iI v2)],[],[],[]⟩ ?_);unfold gy at h;refine gn 53 0 7 8 ?_;obtain⟨c,h⟩|⟨c,h⟩:=am h
 ·refine ah 8 c (av 4 5 2 (ai 2 ?_));obtain⟨j,f,h⟩:=bind_some h;refine aK (L7 e f) (ac (aL 3 ?_));cases h;exact gx
 ·refine ah 8 c (bg 7 3 ?_);obtain⟨d,h⟩|⟨d,h⟩:=am h
  ·refine ah 13 d (av 4 5 2 (bK [1,2] [2] [] ?_));obtain⟨v4,g,h⟩:=bind_some h;obtain⟨v5,i,h⟩:=bind_some h;refine bQ 2 (nu 15 [iI v2,iI v4,.ptr 2 1,iI a.Value,iI (max a.Value (-1000000)),iI (min (max a.Value (-1000000)) 1000000),iI (aa (v4*(min (max a.Value (-1000000)) 1000000))),iI (aa (Int.tdiv (aa (v4*(min (max a.Value (-1000000)) 1000000))) 10000)),iI v5]) [] [] [cf bb 24 Tryz.f58 (pn 860) 9,cf bb 24 Tryz.f58 (pn 860) 10] (ax [.v 0 1] (aj (cq 0 1 16 (uu e g)) (ax (vz 6) (aj (cq 0 1 23 (L7 e i)) (aj (ce 0) (aj (ce 1) bN)))))) (aL 3 ?_);cases h;exact gx
  ·refine ah 13 d (aL 6 ?_);cases h;exact gx
end
noncomputable section
variable[GS](M:Nat→Prop)(a:aA)(r:bD)(b:aI)(v2 d:Int)  
abbrev qZ(n:Nat):aq:=.c (cat Tryz.f57 (pn n))
abbrev aez:Cx:=⟨bb,55,M,a⟩
abbrev q57:=bodyPost bb Tryz.f57 (bJ M a (fun v _=>v=.agg (bV r)))
abbrev zM(m:Nat):dt:=kl (aez M a) (q57 M a r) [.b 0,qZ 15] (cat Tryz.f57 (pn 116)) m::[.b 0,qZ 15]
variable{M a r b v2 d}{K:Kn}{n:Nat}
theorem ae5(e:ao K)(h:A4 K n b v2 d=some r):aX bb 57 [.agg (aH b),iI v2,iI d] (fun v _=>v=.agg (bV r)):=by
 refine bF (cat Tryz.f57 (pn 1)) Tryz.func57 Tryz.ntmps57 fun M a=>(bd ⟨[(0,.agg (aH b)),(1,iI v2),(2,iI d)],[],[],[]⟩ ?_);unfold A4 at h;refine bw (ks':=[qZ 58,.b 0,qZ 15]) 8 ⟨[(1,iI v2),(3,.ptr 3 0),(6,.ptr 6 0),(7,.ptr 7 0),(8,iI 0)],[(3,aH b),(6,bV fy),(7,bV ({ fy with Content:=d }:bD))],[],[3,6,7]⟩ (nf 40 (c:=cat Tryz.f57 [1,1,0,1,0,0]) (by kernel_rfl) (bh (b8 (ks':=qZ 1864::qZ 1865 :: .b 1::qZ 467::zM M a r 39) 8 (ai 5 ?_))));obtain⟨v4,u,h⟩:=bind_some h;refine aK (ju e u) (ac (av 2 3 1 (ai 5 ?_)));obtain⟨v5,w,h⟩:=bind_some h;refine aK (ju e w) (ac (bg 7 4 (ai 5 ?_)));obtain⟨v6,x,h⟩:=bind_some h;refine aK (uu e x) (ac (bw (ks':=zM M a r 39) 2 ⟨[(1,iI v2),(3,.ptr 3 0),(6,.ptr 6 0),(7,.ptr 7 0),(8,iI 1)],[(3,aH b),(6,bV fy),(7,bV (⟨⟨v4.1,0,0,0⟩,⟨v6,0,0,0⟩,⟨(max v5.1 0),0,0,0⟩,d⟩:bD))],[],[3,6,7]⟩ (bn (bh (du 24 25 1 7 8 (ai 5 ?_))))));obtain⟨q,y,h⟩:=bind_some h
 refine aK (ju e y) (ac (av 2 3 1 (ai 5 ?_)));obtain⟨s,z,h⟩:=bind_some h;refine aK (ju e z) (ac (bg 7 4 (ai 5 ?_)));obtain⟨t,A,h⟩:=bind_some h;refine aK (uu e A) (ac (bw (ks':=zM M a r 38) 2 ⟨[(1,iI v2),(3,.ptr 3 0),(6,.ptr 6 0),(7,.ptr 7 0),(8,iI 2)],[(3,aH b),(6,bV fy),(7,bV (⟨⟨v4.1,q.1,0,0⟩,⟨v6,t,0,0⟩,⟨(max v5.1 0),(max s.1 0),0,0⟩,d⟩:bD))],[],[3,6,7]⟩ (bn (bh (du 24 25 1 7 8 (ai 5 ?_))))));obtain⟨f,B,h⟩:=bind_some h;refine aK (ju e B) (ac (av 2 3 1 (ai 5 ?_)));obtain⟨g,C,h⟩:=bind_some h;refine aK (ju e C) (ac (bg 7 4 (ai 5 ?_)));obtain⟨i,D,h⟩:=bind_some h;refine aK (uu e D) (ac (bw (ks':=zM M a r 37) 2 ⟨[(1,iI v2),(3,.ptr 3 0),(6,.ptr 6 0),(7,.ptr 7 0),(8,iI 3)],[(3,aH b),(6,bV fy),(7,bV (⟨⟨v4.1,q.1,f.1,0⟩,⟨v6,t,i,0⟩,⟨(max v5.1 0),(max s.1 0),(max g.1 0),0⟩,d⟩:bD))],[],[3,6,7]⟩ (bn (bh (du 24 25 1 7 8 (ai 5 ?_))))));obtain⟨m,j,h⟩:=bind_some h
 refine aK (ju e j) (ac (av 2 3 1 (ai 5 ?_)));obtain⟨o,k,h⟩:=bind_some h;refine aK (ju e k) (ac (bg 7 4 (ai 5 ?_)));obtain⟨p,l,h⟩:=bind_some h;refine aK (uu e l) (ac (bw (ks':=zM M a r 36) 2 ⟨[(1,iI v2),(3,.ptr 3 0),(6,.ptr 6 0),(7,.ptr 7 0),(8,iI 4)],[(3,aH b),(6,bV fy),(7,bV (⟨⟨v4.1,q.1,f.1,m.1⟩,⟨v6,t,i,p⟩,⟨(max v5.1 0),(max s.1 0),(max g.1 0),(max o.1 0)⟩,d⟩:bD))],[],[3,6,7]⟩ (bn (bh (aL 11 ?_)))));cases h;exact bv
end
noncomputable section
variable[GS](M:Nat→Prop)(b:aA)(r:Int)(a:bD)  
variable{M b r a}{K:Kn}{n:Nat}
theorem NX(c:ao K)(h:xg K n a=some r):aX bb 59 [.agg (bV a)] (fun v _=>v=iI r):=by
 refine bF (cat Tryz.f59 (pn 1)) Tryz.func59 Tryz.ntmps59 fun M b=>(bd ⟨[(0,.agg (bV a))],[],[],[]⟩ ?_);unfold xg at h;refine aL 5 ?_;cases h;exact bv
end
noncomputable section
variable[GS](M:Nat→Prop)(a:aA)(r:Int)(b:aI)(v2 c v5 d:Int)  
abbrev M0(n:Nat):aq:=.c (cat Tryz.f60 (pn n))
abbrev Zz:Cx:=⟨bb,37,M,a⟩
abbrev q60:=bodyPost bb Tryz.f60 (bJ M a (fun v _=>v=iI r))
abbrev OJ(b:dt)(s:AS):=VE (Zz M a) (q60 M a r) b .normal s
def acu:AS:=⟨[(7,iI d)],[],[],[]⟩
def adv:AS:=⟨[(1,iI v2),(3,.ptr 3 0),(7,iI v5)],[(3,aH b)],[],[3]⟩
variable{M a r b v2 c v5 d}{K:Kn}{n:Nat}
theorem VD(b:ao K)(h:y3 K n d=some r):OJ M a r [M0 127] (acu d):=by
 unfold y3 at h;refine aL 3 ?_;cases h;exact bv
theorem Qn(d:ao K)(h:yE K n b v2 v5=some r):OJ M a r [M0 31] (adv b v2 v5):=by
 unfold yE at h;refine av 2 3 1 (ai 3 ?_);obtain⟨v6,e,h⟩:=bind_some h;refine aK (ju d e) (ac (av 5 3 3 ?_));obtain⟨c,h⟩|⟨c,h⟩:=am h
 ·exact ah 32 c (ag 2 (VD d h))
 ·exact ah 32 c (ag 2 (VD d h))
theorem ajU(e:ao K)(h:xG K n b v2 c=some r):aX bb 60 [.agg (aH b),iI v2,iI c] (fun v _=>v=iI r):=by
 refine bF (cat Tryz.f60 (pn 1)) Tryz.func60 Tryz.ntmps60 fun M a=>(bd ⟨[(0,.agg (aH b)),(1,iI v2),(2,iI c)],[],[],[]⟩ ?_);unfold xG at h;refine av 14 15 5 (ai 3 ?_);obtain⟨v4,f,h⟩:=bind_some h;refine aK (ju e f) (ac (av 5 3 3 ?_));obtain⟨d,h⟩|⟨d,h⟩:=am h
 ·exact ah 20 d (ag 2 (Qn e h))
 ·exact ah 20 d (ag 2 (Qn e h))
end
noncomputable section
variable[GS](M:Nat→Prop)(e:aA)(r:bD)(i:aI)(v2 f:Int)(v4:bD)(k g j:Int)(a b:(Int×Bool))(c:Bool)(d:V4 Int)  
abbrev Ep(n:Nat):aq:=.c (cat Tryz.f20 (pn n))
abbrev akl:Cx:=⟨bb,89,M,e⟩
abbrev q20:=bodyPost bb Tryz.f20 (bJ M e (fun v _=>v=.agg (bV r)))
abbrev E7(a:dt)(s:AS):=VE (akl M e) (q20 M e r) a .normal s
def We:AS:=⟨[(4,.ptr 4 0),(5,.ptr 5 0)],[(4,bV fy),(5,bV ({ v4 with Margin:=d,Content:=g }:bD))],[],[4,5]⟩
def YY:AS:=⟨[(4,.ptr 4 0),(5,.ptr 5 0),(8,iI (aa (f-j))),(10,.bool a.2),(12,.bool b.2),(59,.bool c)],[(4,bV fy),(5,bV ({ v4 with Content:=g }:bD))],[],[4,5]⟩
def X0:AS:=⟨[(1,iI f),(2,.ptr 2 0),(4,.ptr 4 0),(5,.ptr 5 0),(6,iI k)],[(2,aH i),(4,bV fy),(5,bV v4)],[],[2,4,5]⟩
variable{M e r i v2 f v4 k g j a b c d}{K:Kn}{n:Nat}
theorem Du(a:ao K)(h:qH K n v4 g d=some r):E7 M e r [.b 0,Ep 4095] (We v4 g d):=by
 unfold qH at h;refine aL 4 ?_;cases h;exact bv
theorem Rz(l:ao K)(h:wV K n f v4 g j a b c=some r):E7 M e r [Ep 16377,.b 0,Ep 4095] (YY f v4 g j a b c):=by
 unfold wV at h;obtain⟨d,h⟩|⟨d,h⟩:=am h
 ·exact ah 59 d (ag 4 (Du l h))
 ·refine ah 59 d (bg 7 3 ?_);obtain⟨i,h⟩|⟨i,h⟩:=am h
  ·exact ah 76 i (ag 2 (Du l h))
  ·refine ah 76 i (bg 7 3 ?_);obtain⟨k,h⟩|⟨k,h⟩:=am h
   ·exact ah 82 k (ag 2 (Du l h))
   ·exact ah 82 k (ag 2 (Du l h))
theorem OY(l:ao K)(h:rW K n i f v4 k=some r):E7 M e r [Ep 63] (X0 i f v4 k):=by
 unfold rW at h;refine av 2 3 1 (ai 3 ?_);obtain⟨g,m,h⟩:=bind_some h;refine aK (ajU l m) (ac (av 2 3 1 (ai 2 ?_)));obtain⟨j,o,h⟩:=bind_some h;refine aK (NX l o) (ac (av 2 3 1 (ai 4 ?_)));obtain⟨a,p,h⟩:=bind_some h;refine aK (ju l p) (ac (av 2 3 1 (ai 4 ?_)));obtain⟨b,q,h⟩:=bind_some h;refine aK (ju l q) (ac (av 5 3 3 ?_));obtain⟨c,h⟩|⟨c,h⟩:=am h
 ·refine ah 57 c (aL 5 ?_);cases h;exact bv
 ·refine ah 57 c (cN 8 9 0 3 5 (ai 3 ?_));obtain⟨d,h⟩|⟨d,h⟩:=am h
  ·exact aD 62 d (ac (ag 0 (Rz l h)))
  ·exact aD 62 d (ac (ag 0 (Rz l h)))
theorem aaD(a:ao K)(h:zU K n i v2=some r):aX bb 20 [.agg (aH i),iI v2] (fun v _=>v=.agg (bV r)):=by
 refine bF (cat Tryz.f20 (pn 1)) Tryz.func20 Tryz.ntmps20 fun M e=>(bd ⟨[(0,.agg (aH i)),(1,iI v2)],[],[],[]⟩ ?_);unfold zU at h;refine av 6 7 3 (ai 1 ?_);obtain⟨f,c,h⟩:=bind_some h;refine aK (uu a c) (ac (av 2 3 1 (ai 2 ?_)));obtain⟨v4,d,h⟩:=bind_some h;refine aK (ae5 a d) (ac (av 2 3 1 (ai 3 ?_)));obtain⟨v5,g,h⟩:=bind_some h;refine aK (ju a g) (ac (av 5 3 3 ?_));obtain⟨b,h⟩|⟨b,h⟩:=am h
 ·refine ah 26 b (bg 2 1 (ai 2 ?_));obtain⟨v6,j,h⟩:=bind_some h;exact aK (NX a j) (ac (ag 0 (OY a h)))
 ·exact ah 26 b (ag 2 (OY a h))
end
noncomputable section
variable(M:Nat→Prop)(d:aA)(r:Bool)(v1:h7)(v2:iX)(a:Int)(v6:ab)(u:ae×Int×Int×dO)(w:bu)(a0:Nat)(f g i j:Int)(k:dO)(x:ay)(N:Nat)(y:Bool)(z A:Int)(B:dO)(b0:Nat)(l c o q:Int)(t:dO)(O:Nat)(C D E:Int)(F:dO)(H:Bool)(I J:Nat)(P Q:Int→Int→Int→Int→dO→Option Bool)
abbrev xK:Cx:=⟨bb,124,M,d⟩
abbrev q5:=bodyPost bb Tryz.f5 (bJ M d (fun v _=>v=.bool r))
abbrev zf(a:dt)(s:AS):=VE (xK M d) (q5 M d r) a .normal s
abbrev iQ(n:Nat):aq:=.c (cat Tryz.f5 (pn n))
abbrev Kb:dt:=[.b 2,iQ 2047]
abbrev Kx:dt:=kl (xK M d) (q5 M d r) Kb (cat Tryz.f5 (pn 16372)) J::Kb
abbrev G8:dt:=[.b 0,iQ 511]
abbrev Fk:dt:=kl (xK M d) (q5 M d r) G8 (cat Tryz.f5 (pn 4084)) I::G8
def Xl:AS:=⟨[(2,iI a),(7,.ptr 7 0),(8,.ptr 8 0),(9,.ptr 9 0),(11,.ptr 11 0),(40,.ref 37),(41,iI f),(42,iI g),(67,.bool y)],[(7,List.set (br (⟨[],z,A⟩:bq)) 0 (.ref 400007)),(8,aB v6),(9,bI w),(11,aR x)],[(37,⟨64,127,lm aR (([]:dO)++u.2.2.2)⟩),(400007,(bt B))],[7,8,9,11,37,400007]⟩
def aev:AS:=⟨[(2,iI a),(7,.ptr 7 0),(8,.ptr 8 0),(17,iI C),(84,.sl (lm aM v6.Kids)),(85,iI (v6.Kids.length:Int)),(86,iI c)],[(7,List.set (br (⟨[],D,E⟩:bq)) 0 (.ref 400007)),(8,aB v6)],[(400007,(bt F))],[7,8,400007]⟩
def ZI:AS:=⟨[(6,.bool H)],[],[],[]⟩
def Pn:AS:=⟨[(2,iI a),(7,.ptr 7 0),(8,.ptr 8 0),(17,iI l),(84,.sl (lm aM v6.Kids)),(85,iI (v6.Kids.length:Int)),(86,iI c)],[(7,List.set (br (⟨[],o,q⟩:bq)) 0 (.ref 400007)),(8,aB v6)],[(400007,(bt t))],[7,8,400007]⟩
def N2:AS:=⟨[(2,iI a),(7,.ptr 7 0),(8,.ptr 8 0),(9,.ptr 9 0),(40,.ref 37),(41,iI f),(42,iI g)],[(7,List.set (br (⟨[],i,j⟩:bq)) 0 (.ref 400007)),(8,aB v6),(9,bI w)],[(37,⟨64,127,lm aR (([]:dO)++u.2.2.2)⟩),(400007,(bt k))],[7,8,9,37,400007]⟩
abbrev E6:Prop:=∀{f:Int} {g:Int} {i:Int} {j:Int} {k:dO},P f g i j k=some r→LP (xK M d) (q5 M d r) G8 (cat Tryz.f5 (pn 4084)) I (N2 a v6 u w f g i j k)
abbrev I8:Prop:=∀{l:Int} {c:Int} {o:Int} {q:Int} {t:dO},Q l c o q t=some r→LP (xK M d) (q5 M d r) Kb (cat Tryz.f5 (pn 16372)) J (Pn a v6 l c o q t)
variable{M d r v1 v2 a v6 u w a0 f g i j k x N y z A B b0 l c o q t O C D E F H I J P Q}{K:Kn}{n:Nat}
theorem Rr(k:∀ [GS],ao K)(j:E6 M d r a v6 u w I P)(h:zI K n a v6 u w f g x P y z A B=some r):zf M d r (iQ 1045709::iQ 522855 :: .b 1::iQ 32679::Fk M d r I) (Xl a v6 u w f g x y z A B):=by
 letI:GS:=⟨0⟩;have m:=@k ⟨0⟩
 unfold zI at h;obtain⟨b,h⟩|⟨b,h⟩:=am h
 ·refine ah 67 b (aL 10 ?_);cases h;exact bv
 ·refine ah 67 b (fq 6 7 5 (ai 2 ?_));obtain⟨e,h⟩:=aF h;refine au (aj8 e) (ac (av 2 3 1 (ai 3 ?_)));obtain⟨l,i,h⟩:=bind_some h;refine tv 7 400007 (fun [GS]=>(xB k i)) (ac (bg 3 2 ?_));obtain⟨c,h⟩|⟨c,h⟩:=am h
  ·refine ah 81 c (aL 9 ?_);cases h;exact bv
  ·exact ah 81 c (ag 4 (bn (j h)))
theorem Sg(e:∀ [GS],ao K)(b:I8 M d r a v6 J Q)(h:wj K n a v6 c Q C D E F=some r):zf M d r (iQ 130983::Kx M d r J) (aev a v6 c C D E F):=by
 letI:GS:=⟨0⟩;have f:=@e ⟨0⟩
 unfold wj at h;exact ag 1 (bn (b h))
theorem R6(a:∀ [GS],ao K)(h:xc K n H=some r):zf M d r [iQ 8191] (ZI H):=by
 letI:GS:=⟨0⟩;have b:=@a ⟨0⟩
 unfold xc at h;refine aL 1 ?_;cases h;exact bv
theorem afw(j:∀ [GS],ao K)(k:I8 M d r a v6 J Q)(h:Au K n a v6 Q l c o q t=some r):zf M d r (iQ 16372::Kx M d r J) (Pn a v6 l c o q t):=by
 letI:GS:=⟨0⟩;have z:=@j ⟨0⟩
 unfold Au at h;refine av 6 7 3 ?_;obtain⟨e,h⟩|⟨e,h⟩:=am h
 ·refine ah 87 e (cN 8 9 3 3 5 (ai 0 ?_));obtain⟨p,h⟩:=aF h;refine au (bE aM aB p (fV) (d7)) (ac ?_);obtain⟨x,s,h⟩:=bW h;refine bw (ks':=iQ 2095717::iQ 1047859 :: .b 3::iQ 130983::Kx M d r J) 3 ⟨[(2,iI a),(7,.ptr 7 0),(8,.ptr 8 0),(17,iI l),(19,.ptr 19 0),(84,.sl (lm aM v6.Kids)),(85,iI (v6.Kids.length:Int)),(86,iI c),(92,.bool x)],[(7,List.set (br (⟨[],o,q⟩:bq)) 0 (.ref 400007)),(8,aB v6),(19,aB (gD v6.Kids c))],[(400007,(bt t))],[7,8,19,400007]⟩ ?_ (by subst s;kernel_rfl);obtain⟨f,h⟩|⟨f,h⟩:=am h
  ·exact ah 92 f (ag 4 (Sg j k h))
  ·refine ah 92 f (fq 6 7 5 (bK [2,7,8,17,19,84,85,86,92] [7,8,19] [400007] (RN 92 7 7 fun O=>?_)));obtain⟨m,u,h⟩:=bind_some h;obtain⟨b,v,h⟩:=bind_some h;refine bQ 3 [(96,.agg (aB (gD v6.Kids c))),(97,.ptr 8 2),(98,.agg (aH v6.Style)),(99,iI a),(100,.agg (bV m)),(101,iI m.Content),(95,.tup [.agg (aG b.1),.bool b.2.1]),(103,.agg (aG b.1)),(104,.bool b.2.1),(20,.ptr 20 0)] [(20,List.set (aG bT) 66 (.nils))] [] [l9 7 400007 (some 102) (bt b.2.2.2.2) [(af b.2.2.1 b.2.2.2.1)] (.tup [.agg (aG b.1),.bool b.2.1]),cf bb 124 Tryz.f5 (pn 4191438) 11,cf bb 124 Tryz.f5 (pn 4191438) 12] (ax [.v 0 1,.v 0 2,.v 0 2,.v 0 2] (aj (cq 0 1 100 (aaD z u)) (ax [.v 0 1] (aj (Sp 0 92 7 400007 O (fun [GS]=>(xB j v))) (ax [.v 1 1,.v 1 1,.v 1 2] (aj (nO 0 2 44 20 (List.set (aG bT) 66 (.nils))) (aj (ce 1) (aj (ce 2) bN)))))))) (bg 3 2 ?_)
   obtain⟨g,h⟩|⟨g,h⟩:=am h
   ·refine ah 106 g (aL 9 ?_);cases h;exact bv
   ·exact ah 106 g (ag 3 (Sg j k h))
 ·refine ah 87 e (gH 2 3 6 (ai 1 ?_));obtain⟨y,w,h⟩:=bind_some h;refine tv 7 400007 (fun [GS]=>(xB j w)) (ac (av 2 3 1 (ai 3 ?_)));obtain⟨i,h⟩|⟨i,h⟩:=am h
  ·exact aD 115 i (aQ 7 4 (au (bA aR y.2.2.2.2) (ac (ag 0 (R6 j h)))))
  ·exact aD 115 i (ac (ag 0 (R6 j h)))
theorem aaO(b:∀ [GS],ao K)(m:Nat):I8 M d r a v6 m (rh K n a v6 m):=by
 letI:GS:=⟨0⟩;have f:=@b ⟨0⟩
 induction m with
 | zero=>intro l c o q t h;cases h
 | succ m e=>intro l c o q t h;have h:Au K n a v6 (rh K n a v6 m) l c o q t=some r:=h;exact bh (afw b e h)
theorem ajn(q:∀ [GS],ao K)(y:E6 M d r a v6 u w I P)(h:xZ K n a v6 u w P f g i j k=some r):zf M d r (iQ 4084::Fk M d r I) (N2 a v6 u w f g i j k):=by
 letI:GS:=⟨0⟩;have D:=@q ⟨0⟩
 unfold xZ at h;refine av 6 7 3 ?_;obtain⟨m,h⟩|⟨m,h⟩:=am h
 ·refine ah 43 m (cN 8 9 1 3 5 (ai 0 ?_));obtain⟨t,h⟩:=aF h;refine au (ct 37 127 aR t) (au (bO 64 0 aR aR (bH t).2 aT) (ac ?_));obtain⟨x,z,h⟩:=bW h;refine bw (ks':=iQ 261426::iQ 261427 :: .b 1::iQ 32679::Fk M d r I) 1 ⟨[(2,iI a),(7,.ptr 7 0),(8,.ptr 8 0),(9,.ptr 9 0),(11,.ptr 11 0),(40,.ref 37),(41,iI f),(42,iI g)],[(7,List.set (br (⟨[],i,j⟩:bq)) 0 (.ref 400007)),(8,aB v6),(9,bI w),(11,aR x)],[(37,⟨64,127,lm aR (([]:dO)++u.2.2.2)⟩),(400007,(bt k))],[7,8,9,11,37,400007]⟩ ?_ (by subst z;kernel_rfl);refine ai 4 ?_;obtain⟨c,A,h⟩:=bind_some h;refine tv 7 400007 (fun [GS]=>(xB q A)) (ac (cc 4 5 3 2 (bK [2,7,8,9,11,12,13,40,41,42,50] [7,8,9,11,12] [37,400007] (RN 50 7 7 fun N=>?_))));obtain⟨o,h⟩|⟨o,h⟩:=am h
  ·exact bQ 0 (nu 54 [.bool c.2.1,.bool (!c.2.1),.bool true,bf,bf,bf,bf,bf,bf,bf,bf,bf,bf,.bool true]) [] [] [] (ax (vz 2) (aj (cS 0 56 (e:=(!c.2.1)) (b:=true) o) (aj (aC 0 1) (aj (aC 0 1) (aj (aC 0 1) (aj (aC 0 1) (aj (aC 0 1) (aj (aC 0 1) (aj (aC 0 1) (aj (aC 0 1) (aj (aC 0 1) (aj (aC 0 1) (ax [.v 0 1] bN))))))))))))) (ag 0 (Rr q y h))
  ·obtain⟨B,h⟩:=aF h;obtain⟨l,v,h⟩:=bind_some h;obtain⟨s,C,h⟩:=bind_some h;exact bQ 1 (nu 54 [.bool c.2.1,.bool (!c.2.1),.bool false,.agg (aG c.1),.ptr 9 0,.fn w.Layout.id w.Layout.aO,.ptr 11 0,.agg (aB x.Box),.ptr 11 59,iI x.Width]++nu 65 [.bool s,.bool (!s),.bool (!s)]) [] [] [l9 7 400007 (some 64) (bt l.2.2.2) [(af l.2.1 l.2.2.1)] (.agg (aG l.1))] (ax [.v 0 2,.v 0 2] (aj (cS 0 56 (e:=(!c.2.1)) (b:=false) o) (ax [.v 0 2,.v 0 2,.v 0 1,.v 0 2,.v 0 1,.v 0 2,.v 0 1] (aj (Sp 0 50 7 400007 N (fun [G:GS]=>afQ B (q.de v).2) (q.de v).1) (aj (cq 1 1 65 (Ub D C)) (ax [.v 1 1,.v 1 1] bN)))))) (ag 0 (Rr q y h))
 ·exact ah 43 m (tS 12 13 7 9 (ai 2 (au (bA aM v6.Kids) (ac (ag 1 (cd (p:=pn 8186) n (aaO q n h)))))))
theorem abc(b:∀ [GS],ao K)(m:Nat):E6 M d r a v6 u w m (vb K n a v6 u w m):=by
 letI:GS:=⟨0⟩;have e:=@b ⟨0⟩
 induction m with
 | zero=>intro f g i j k h;cases h
 | succ m c=>intro f g i j k h;have h:xZ K n a v6 u w (vb K n a v6 u w m) f g i j k=some r:=h;exact bh (ajn b c h)
theorem aiU(b:∀ [GS],ao K)(h:DK K n v1 v2 a=some r):aX bb 5 [.sl (lm bp v1),.agg (jA v2),iI a] (fun v _=>v=.bool r):=by
 letI:GS:=⟨0⟩;have g:=@b ⟨0⟩
 refine bF (cat Tryz.f5 (pn 1)) Tryz.func5 Tryz.ntmps5 fun M d=>(bd ⟨[(0,.sl (lm bp v1)),(1,.agg (jA v2)),(2,iI a)],[],[],[]⟩ ?_);unfold DK at h;refine cc 12 13 7 4 (ai 0 ?_);obtain⟨v4,i,h⟩:=bind_some h;refine aK (aeJ b i) (ac ?_);obtain⟨c,h⟩|⟨c,h⟩:=am h
 ·refine ah 25 c (aL 5 ?_);cases h;exact bv
 ·refine ah 25 c (rF 4 5 3 4 (ai 3 ?_));obtain⟨v5,j,h⟩:=bind_some h;refine aK (ajE g j) (ac ?_);obtain⟨f,h⟩|⟨f,h⟩:=am h
  ·refine ah 30 f (aL 5 ?_);cases h;exact bv
  ·refine ah 30 f (fq 6 7 5 (ai 1 ?_));obtain⟨v6,k,h⟩:=bind_some h;refine aK (acC g k) (ac (av 2 3 1 (ai 2 (Ex 400007 7 0 64 127 ?_))));obtain⟨u,l,h⟩:=bind_some h;refine tv 7 400007 (fun [GS]=>(Ih b l)) (ac (av 2 3 1 (ai 0 ?_)));obtain⟨w,m,h⟩:=bind_some h;refine aK (acN (RA g m)) (ac (cc 4 5 3 2 (ai 0 (Ce 27 37 (e:=64) (sz:=127) (aQ 3 2 ?_)))));obtain⟨o,h⟩:=aF h;exact au (ach 40 37 64 127 aR (L:=([]:dO)) (M:=u.2.2.2) o) (au (bA aR (([]:dO)++u.2.2.2)) (ac (ag 1 (cd (p:=pn 2042) n (abc b n h)))))
end
end Go.Proofs.YtocgkfoifehcbaaGreat

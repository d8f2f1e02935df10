/- The runs of the functions that RelayoutChanged reaches do what their plain forms say, part 4. Made by a program. -/
import Derived.Test.YtocgkfoifehcbaaGreatRcGk
import Derived.Test.YtocgkfoifehcbaaGreatRcP3
namespace Go.Proofs.YtocgkfoifehcbaaGreat
open Go.RowKit
set_option maxRecDepth 20000
set_option linter.all false
set_option linter.unusedVariables false
set_option linter.unusedSimpArgs false
structure DB where
 nd:Bool
 b:ah
 y:Value
 kids:List DB
instance:Inhabited DB:=⟨⟨false,cA,.nilIface,[]⟩⟩
def DB.cells(D:DB):List AV:=List.set (ap ({ D.b with Kids:=[] }:ah)) 58 (.vv D.y)
theorem DB.OK(D:DB):D.cells.length=59:=rfl
mutual
def DB.plain:DB→ah
 | ⟨_,b,_,kids⟩=>{ b with Kids:=fd kids }
def fd:List DB→List ah
 | []=>[]
 | d::r=>d.plain::fd r
end
theorem ja:∀l:List DB,fd l=l.map DB.plain
 | []=>rfl
 | d::r=>by simp[fd,ja r]
mutual
def DB.bl:DB→List Nat
 | ⟨nd,_,y,kids⟩=>match nd with|true=>(match bo (some y) with|some g=>[g]|none=>[])++bls kids|false=>[]
def bls:List DB→List Nat
 | []=>[]
 | d::r=>d.bl++bls r
end
theorem AW:∀(l m:List DB),bls (l++m)=bls l++bls m
 | [],m=>rfl
 | d::r,m=>by simp[bls,AW r m]
theorem gw:∀{l:List DB} {g:Nat},g∈bls l↔∃d∈l,g∈d.bl
 | [],g=>by simp[bls]
 | d::r,g=>by simp[bls,gw (l:=r)]
theorem DB.Ka(D:DB):D.plain={ D.b with Kids:=D.kids.map DB.plain }:=by cases D;simp only[DB.plain,ja]
theorem DB.GN(D:DB):aF D.plain=List.set (ap ({ D.b with Kids:=[] }:ah)) 58 (.sl (lm aF (D.kids.map DB.plain))):=by
 rw[cX,DB.Ka];rfl
theorem R7{y x:Value}(h:fb (.vv y) x):x=y:=by
 have:=h (fun _=>False) default bD;cases this;rfl
inductive c7 (w:World):DB→Prop
 | leaf (b:ah) (y:Value) (hb:b.Kind≠1) (A:Option Addr) (c:Nat) (hy:y=.slice A 0 c):c7 w ⟨false,b,y,[]⟩
 | node (b:ah) (y:Value) (kids:List DB) (xs:List Value) (h1:w.ownsRow 0 48 59 y kids.length xs) (h2:∀ x∈xs,x.oneCell'=true)
     (h3:∀(j:Nat) (D:DB),kids[j]?=some D→∀(i:Nat) (c:AV),D.cells[i]?=some c→∃x,xs[j*59+i]?=some x∧fb c x) (h4:∀D∈kids,c7 w D):c7 w ⟨true,b,y,kids⟩
theorem N9{b:ah}{y:Value}{kids:List DB}{D:DB}(h:D∈kids){g:Nat}(hg:g∈D.bl):g∈(⟨true,b,y,kids⟩:DB).bl:=by
 simp only[DB.bl,List.mem_append];exact .inr (gw.2 ⟨D,h,hg⟩)
theorem q9{b:ah}{y:Value}{kids:List DB}{g:Nat}(hg:bo (some y)=some g):g∈(⟨true,b,y,kids⟩:DB).bl:=by
 simp[DB.bl,hg]
theorem c7.bR{w w':World}{D:DB}(h:c7 w D):(∀g∈D.bl,w'.heap[g]?=w.heap[g]?)→c7 w' D:=by
 induction h with
 | leaf b y hb A c hy=>intro _;exact .leaf b y hb A c hy
 | node b y kids xs h1 h2 h3 h4 ih=>intro hk;exact .node b y kids xs (d4 h1 (fun g hg=>hk g (q9 hg))) h2 h3 (fun D hD=>ih D hD (fun g hg=>hk g (N9 hD hg)))
theorem c7.lt{w:World}{D:DB}(h:c7 w D):∀g∈D.bl,g<w.heap.size:=by
 induction h with
 | leaf b y hb A c hy=>intro g hg;cases hg
 | node b y kids xs h1 h2 h3 h4 ih =>
   intro g hg;simp only[DB.bl,List.mem_append]at hg;rcases hg with hg|hg
   · cases hb:bo (some y) with
     | none=>rw[hb]at hg;cases hg
     | some g'=>rw[hb]at hg;rw[List.mem_singleton.1 hg];exact B5 h1 hb
   · obtain⟨D,hD,hgD⟩:=gw.1 hg;exact ih D hD g hgD
theorem c7.rel{w:World}{N:Nat→Prop}{D:DB}(h:c7 w D):(∀g∈D.bl,¬ N g)→Rel N w bD (.sl (lm aF (D.kids.map DB.plain))) D.y:=by
 induction h with
 | leaf b y hb A c hy=>intro _;subst hy;exact .sl0 _ _ _
 | node b y kids xs h1 h2 h3 h4 ih =>
   intro hN;obtain⟨hl,⟨hz,hn0⟩|⟨g,cap,cur,hg,hb,hgw,hn,hcap,hsz,htk⟩⟩:=h1
   · have:kids=[]:=List.eq_nil_of_length_eq_zero hn0;subst this;show Rel N w bD (.sl []) y;rw[hz];exact .sl0 _ _ _
   · have hbk:bo (some y)=some g:=by rw[hg];rfl
     have hL:(lm aF (kids.map DB.plain)).length=kids.length:=by simp
     have hget:∀(j:Nat) (e:List AV),(lm aF (kids.map DB.plain))[j]?=some e→∃D,kids[j]?=some D∧e=aF D.plain:=fun j e he=>by
       rw[List.getElem?_map,List.getElem?_map]at he;cases hk:kids[j]? with
       | none=>rw[hk]at he;cases he
       | some D=>rw[hk]at he;injection he with he;exact⟨D,rfl,he.symm⟩
     have hcell:∀(j:Nat) (e:List AV),(lm aF (kids.map DB.plain))[j]?=some e→∀(i:Nat) (x:AV),e[i]?=some x→∃v,xs[j*59+i]?=some v∧Rel N w bD x v:=fun j e he i x hx=>by
       obtain⟨D,hD,rfl⟩:=hget j e he;rw[DB.GN]at hx;have hmem:=List.mem_of_getElem? hD;have hlen:(ap ({ D.b with Kids:=[] }:ah)).length=59:=rfl;by_cases h58:i=58
       · subst h58;rw[List.getElem?_set_self (by rw[hlen];omega)]at hx;injection hx with hx;subst hx
         obtain⟨v,hv,hp⟩:=h3 j D hD 58 (.vv D.y) (by unfold DB.cells;rw[List.getElem?_set_self (by rw[hlen];omega)]);refine⟨v,hv,?_⟩;rw[R7 hp];exact ih D hmem (fun g' hg'=>hN g' (N9 hmem hg'))
       · rw[List.getElem?_set_ne (fun e=>h58 e.symm)]at hx;obtain⟨v,hv,hp⟩:=h3 j D hD i x (by unfold DB.cells;rw[List.getElem?_set_ne (fun e=>h58 e.symm)];exact hx);exact⟨v,hv,hp _ _ _⟩
     have hrel:=Rel.sl (N:=N) (w:=w) bD (lm aF (kids.map DB.plain)) g 0 cap 59 (fun j i=>(xs[j*59+i]?).getD (.bool true)) (fun e he=>by
         obtain⟨b,_,rfl⟩:=List.mem_map.1 he;exact dE b) (Array.getElem?_eq_some_iff.1 hgw).1 (hN g (q9 hbk)) (fun j i=>by
         cases e:xs[j*59+i]? with
         | none=>rfl
         | some v=>exact h2 v (List.mem_of_getElem? e)) (fun j e he i x hx=>by
         obtain⟨v,hv,_⟩:=hcell j e he i x hx;rw[cell_of_row _ _ _ _ 48 (0,0) hgw];have:cur.toList[j*59+i]?=some v:=by
           rw[←htk]at hv;rw[List.getElem?_take]at hv;split at hv
           · exact hv
           · cases hv
         simp only[hv,Option.getD_some];rw[←Array.getElem?_toList,Nat.zero_add];exact this) (fun j e he i x hx=>by
         obtain⟨v,hv,hr⟩:=hcell j e he i x hx;simp only[hv,Option.getD_some];exact hr) (by rw[hL];exact hn)
     rw[hL]at hrel;show Rel N w bD _ y;rw[hg];exact hrel
theorem Al{N:Nat→Prop}{w:World}{ι:Env}{l:List AV}{c:AV}{y x:Value}{q:Nat}(h:Rel N w ι (.agg (l.set q c)) x)(hq:q<l.length)(hl:((l.set q (.bool true)).all nk)=true)(hc:∀v,Rel N w ι c v→v=y)(hy:y.oneCell'=true):fb (.agg (l.set q (.vv y))) x:=by
 cases h with
 | agg _ _ vs hlen h1 hr =>
   intro N' w' ι';refine .agg _ _ vs (by simpa using hlen) h1 fun i a v ha hv=>?_;rw[List.length_set]at hlen;by_cases hi:i=q
   · subst hi;rw[List.getElem?_set_self hq]at ha;injection ha with ha;subst ha
     have:=hc v (hr i c v (List.getElem?_set_self hq) hv);subst this;exact .vv _ _ hy
   · rw[List.getElem?_set_ne (fun e=>hi e.symm)]at ha;have h9:=hr i a v (by rw[List.getElem?_set_ne (fun e=>hi e.symm)];exact ha) hv;have hs:=List.all_eq_true.1 hl a (List.mem_of_getElem? (i:=i) (by rw[List.getElem?_set_ne (fun e=>hi e.symm)];exact ha));exact wx hs h9
theorem Dv{N:Nat→Prop}{w:World}{ι:Env}{id:Nat}{y:Value}(hy:ι id=some y):∀v,Rel N w ι (.ref id) v→v=y:=fun v h=>by
 cases h with
 | ref _ _ A n c h=>rw[hy]at h;injection h with h;exact h.symm
theorem Bd{N:Nat→Prop}{w:World}{D:DB}{i:Nat}{c:AV}{x:Value}(hi:D.cells[i]?=some c)(h:Rel N w bD c x):fb c x:=by
 have hlen:(ap ({ D.b with Kids:=[] }:ah)).length=59:=rfl;by_cases h58:i=58
 · subst h58;unfold DB.cells at hi;rw[List.getElem?_set_self (by rw[hlen];omega)]at hi;injection hi with hi;subst hi
   cases h with
   | vv _ _ h1=>exact fun _ _ _=>.vv _ _ h1
 · have hs:nk c=true:=List.all_eq_true.1 (show ((List.set (ap ({ D.b with Kids:=[] }:ah)) 58 (.bool true)).all nk)=true from rfl) c (List.mem_of_getElem? (i:=i) (by
     unfold DB.cells at hi;rw[List.getElem?_set_ne (fun e=>h58 e.symm)]at hi⊢;exact hi))
   exact fun _ _ _=>wx hs h
def DB.d8(D:DB):List AV:=List.set (ap ({ D.b with Kids:=[] }:ah)) 58 (match D.nd with|true=>.vv D.y|false=>.sl [])
theorem DB.Kd(D:DB):D.d8.length=59:=rfl
theorem Dm{α β:Type}{P:Nat→α→β→Prop}:∀(l:List α) (k:Nat),(∀(j:Nat) (a:α),l[j]?=some a→∃b,P (k+j) a b)→∃m:List β,m.length=l.length∧∀(j:Nat) (a:α),l[j]?=some a→∃b,m[j]?=some b∧P (k+j) a b
 | [],k,_=>⟨[],rfl,fun j a h=>by simp at h⟩
 | a::r,k,h=>by
   obtain⟨b,hb⟩:=h 0 a rfl;obtain⟨m,h1,h2⟩:=Dm (P:=P) r (k+1) (fun j a' hj=>by have:=h (j+1) a' (by simpa using hj);rw[show k+1+j=k+(j+1) by omega];exact this);refine⟨b::m,by simp[h1],fun j a' hj=>?_⟩;cases j with
   | zero=>simp at hj;subst hj;exact⟨b,rfl,hb⟩
   | succ j =>
     obtain⟨b',g1,g2⟩:=h2 j a' (by simpa using hj);exact⟨b',by simpa using g1,by rw[show k+(j+1)=k+1+j by omega];exact g2⟩
theorem td{α β γ:Type}{f:α→γ}{g:β→γ}:∀{l:List α} {m:List β},m.length=l.length→(∀(j:Nat) (a:α),l[j]?=some a→∃b,m[j]?=some b∧g b=f a)→m.map g=l.map f
 | [],[],_,_=>rfl
 | [],_::_,h,_=>by cases h
 | _::_,[],h,_=>by cases h
 | a::r,b::q,h,k=>by
   obtain⟨b',h1,h2⟩:=k 0 a rfl;simp at h1;subst h1;rw[List.map_cons,List.map_cons,h2,td (by simpa using h) (fun j a' hj=>by simpa using k (j+1) a' (by simpa using hj))]
theorem kE:∀l:List DB,bls l=(l.map DB.bl).flatten
 | []=>rfl
 | d::r=>by simp[bls,kE r]
theorem T9{M:Nat→Prop}{b:aB}{w:World}{ι:Env}{s:AS}(h:HS M b w ι s){id:Nat}{Ds:List DB}(hr:look id s.r=some ⟨48,59,Ds.map DB.d8⟩)(hid:id<TG){y:Value}(hy:ι id=some y)(bx:ah)(hk:∀D∈Ds,(D.nd=true→c7 b.w D∧∀g∈D.bl,M g)∧(D.nd=false→D.kids=[]∧D.b.Kind≠1))(hnd:(bls Ds).Nodup):
   ∃Ds',fd Ds'=fd Ds∧bls Ds'=bls Ds∧c7 w ⟨true,bx,y,Ds'⟩∧(∀g∈bls Ds',M g)∧(⟨true,bx,y,Ds'⟩:DB).bl.Nodup∧(∀g,bo (some y)=some g→b.O g∧g<w.heap.size):=by
 obtain⟨v,xs,e1,e2,e3,e4,e5⟩:=h.arrs id _ hr (by rw[hy];rfl);rw[hy]at e1;injection e1 with e1;subst e1
 have hfalse:∀D:DB,D.nd=false→D.bl=[]:=fun D hD=>by cases D;simp only at hD;subst hD;rfl
 have hM0:∀D∈Ds,∀g∈D.bl,M g:=fun D hD g hg=>by
   cases hq:D.nd with
   | true=>exact((hk D hD).1 hq).2 g hg
   | false=>rw[hfalse D hq]at hg;cases hg
 have step:∀(j:Nat) (D:DB),Ds[j]?=some D→∃D':DB,D'.plain=D.plain∧D'.bl=D.bl∧c7 w D'∧∀(i:Nat) (c:AV),D'.cells[i]?=some c→∃x,xs[(0+j)*59+i]?=some x∧fb c x:=fun j D hD=>by
   have hmem:=List.mem_of_getElem? hD;have hlen:(ap ({ D.b with Kids:=[] }:ah)).length=59:=rfl;have get:∀(i:Nat) (c:AV),D.d8[i]?=some c→∃x,xs[j*59+i]?=some x∧Rel (NN M ι) w bD c x:=fun i c hc=>by
     obtain⟨x,hx,hrx⟩:=e5 j D.d8 (by rw[List.getElem?_map,hD];rfl) i c hc;exact⟨x,hx,hrx.flat (by omega)⟩
   cases hq:D.nd with
   | true =>
     have hcel:D.d8=D.cells:=by unfold DB.d8 DB.cells;rw[hq]
     refine⟨D,rfl,rfl,((hk D hmem).1 hq).1.bR fun g hg=>?_,fun i c hc=>?_⟩
     · have hold:=h.old g (((hk D hmem).1 hq).2 g hg);exact h.below.block g hold.1 hold.2
     · obtain⟨x,hx,hrx⟩:=get i c (by rw[hcel];exact hc);exact⟨x,by rw[Nat.zero_add];exact hx,Bd hc hrx⟩
   | false =>
     obtain⟨hkids,hkind⟩:=(hk D hmem).2 hq;have hcel:D.d8=List.set (ap ({ D.b with Kids:=[] }:ah)) 58 (.sl []):=by unfold DB.d8;rw[hq]
     obtain⟨x,hx,hrx⟩:=get 58 (.sl []) (by rw[hcel,List.getElem?_set_self (by rw[hlen];omega)]);have hxs:∃A c,x=.slice A 0 c:=by
       cases hrx with
       | sl0 _ A c=>exact⟨A,c,rfl⟩
       | sl _ _ b o c sz val=>exact⟨_,_,rfl⟩
     obtain⟨A,c0,rfl⟩:=hxs;obtain⟨nd,bb,yy,kk⟩:=D;simp only at hq hkids hkind;subst hq;subst hkids;refine⟨⟨false,bb,.slice A 0 c0,[]⟩,rfl,rfl,.leaf bb _ hkind A c0 rfl,fun i c hc=>?_⟩;rw[Nat.zero_add];by_cases h58:i=58
     · subst h58;unfold DB.cells at hc;rw[List.getElem?_set_self (by rw[hlen];omega)]at hc;injection hc with hc;subst hc
       exact⟨_,hx,fun _ _ _=>.vv _ _ rfl⟩
     · have hc':(DB.d8 ⟨false,bb,yy,[]⟩)[i]?=some c:=by
         unfold DB.cells at hc;unfold DB.d8;rw[List.getElem?_set_ne (fun e=>h58 e.symm)]at hc⊢;exact hc
       obtain⟨x,hx',hrx'⟩:=get i c hc';exact⟨x,hx',Bd hc hrx'⟩
 obtain⟨Ds',hl,hDs⟩:=Dm (P:=fun j (D D':DB)=>D'.plain=D.plain∧D'.bl=D.bl∧c7 w D'∧∀(i:Nat) (c:AV),D'.cells[i]?=some c→∃x,xs[j*59+i]?=some x∧fb c x) Ds 0 step;have hpl:fd Ds'=fd Ds:=by
   rw[ja,ja];exact td hl fun j a ha=>by obtain⟨b,g1,g2,_⟩:=hDs j a ha;exact⟨b,g1,g2⟩
 have hbl:bls Ds'=bls Ds:=by
   rw[kE,kE,td (f:=DB.bl) (g:=DB.bl) hl fun j a ha=>by obtain⟨b,g1,_,g2,_⟩:=hDs j a ha;exact⟨b,g1,g2⟩]
 have hback:∀(j:Nat) (D':DB),Ds'[j]?=some D'→c7 w D'∧∀(i:Nat) (c:AV),D'.cells[i]?=some c→∃x,xs[j*59+i]?=some x∧fb c x:=fun j D' hD'=>by
   have hjl:j<Ds.length:=by rw[←hl];exact(List.getElem?_eq_some_iff.1 hD').1
   obtain⟨b,g1,g2,g3,g4,g5⟩:=hDs j _ (List.getElem?_eq_getElem hjl);rw[hD']at g1;injection g1 with g1;subst g1
   exact⟨g4,fun i c hc=>by have:=g5 i c hc;rw[Nat.zero_add]at this;exact this⟩
 have hM:∀g∈bls Ds',M g:=fun g hg=>by
   rw[hbl]at hg;obtain⟨D,hD,hgD⟩:=gw.1 hg;exact hM0 D hD g hgD
 refine⟨Ds',hpl,hbl,.node bx y Ds' xs (by rw[hl];simpa using e2) e4 (fun j D hD i c hc=>(hback j D hD).2 i c hc) (fun D hD=>?_),hM,?_,fun g hg=>h.own id g (by rw[hy];exact hg)⟩
 · obtain⟨j,hj⟩:=List.getElem?_of_mem hD;exact(hback j D hj).1
 · simp only[DB.bl];rw[←hbl]at hnd;cases hb:bo (some y) with
   | none=>exact hnd
   | some g =>
     refine List.nodup_cons.2 ⟨fun hg=>?_,hnd⟩;exact h.sep (hM g hg) (by rw[hy];exact hb)
noncomputable section
variable(M:Nat→Prop)(w0:World)(b':aB)(r:ah×Int)(v1:List aM)(v2:Int)(v3:Bool)(v8:Int)(v9:List DB)(v10:Bool)(m1:Nat)(L1:Int→(List ah)→Option (ah×Int))
abbrev AI:Cx:=⟨Tryz.prog,95,M,b'⟩
def QT(r:ah×Int)(w w':World)(v:AV):Prop:=∃D:DB,D.nd=true∧D.plain=r.1∧v=.tup [.agg D.cells,iI r.2]∧c7 w' D∧(∀g∈D.bl,w.heap.size≤g∧g<w'.heap.size)∧D.bl.Nodup
abbrev qT:=bodyPost Tryz.prog Tryz.f41 (fun e w'=>∃x v,e=.returned x∧Below w0.heap.size w0 w'∧QT r w0 w' v∧fb v x)
abbrev Fa(ks:List ao)(s:AS):=VE (AI M b') (qT w0 r) ks .normal s
structure FI(M:Nat→Prop)(w0:World)(b':aB)(Ds:List DB):Prop where
 gr:dV (fun _=>False) (jc w0) b'
 ok:∀D∈Ds,(D.nd=true→c7 b'.w D∧∀g∈D.bl,M g∧w0.heap.size≤g)∧(D.nd=false→D.kids=[]∧D.b.Kind≠1)
 nodup:(bls Ds).Nodup
theorem FI.bl{M:Nat→Prop}{w0:World}{b':aB}{Ds:List DB}(h:FI M w0 b' Ds):∀g∈bls Ds,M g∧w0.heap.size≤g:=fun g hg=>by
 obtain⟨D,hD,hgD⟩:=gw.1 hg;cases hq:D.nd with
 | true=>exact((h.ok D hD).1 hq).2 g hgD
 | false=>obtain⟨nd,b,y,k⟩:=D;simp only at hq;subst hq;cases hgD
theorem FI.add{M:Nat→Prop}{w0 w:World}{b' b2:aB}{Ds:List DB}(h:FI M w0 b' Ds)(hM:∀k,M k→k<b'.w.heap.size∧¬ b'.G k)(hsz:b'.w.heap.size≤w.heap.size)(hg:dV (fun _=>False) b' b2){D:DB}(hnd:D.nd=true)(hok:c7 b2.w D)(hbl:∀g∈D.bl,w.heap.size≤g∧g<b2.w.heap.size)(hno:D.bl.Nodup):FI (fun c=>M c∨c∈D.bl) w0 b2 (Ds++[D]):=by
 refine⟨h.gr.trans hg,fun D' hD'=>?_,?_⟩
 · rcases List.mem_append.1 hD' with hD'|hD'
   · refine⟨fun hq=>⟨((h.ok D' hD').1 hq).1.bR fun g hgD=>?_,fun g hgD=>⟨.inl (((h.ok D' hD').1 hq).2 g hgD).1,(((h.ok D' hD').1 hq).2 g hgD).2⟩⟩,(h.ok D' hD').2⟩;have:=hM g (((h.ok D' hD').1 hq).2 g hgD).1;exact hg.block g this.1 this.2 (fun h=>h)
   · rw[List.mem_singleton.1 hD'];exact⟨fun _=>⟨hok,fun g hgD=>⟨.inr hgD,Nat.le_trans h.gr.size (Nat.le_trans hsz (hbl g hgD).1)⟩⟩,fun hq=>by rw[hnd]at hq;cases hq⟩
 · rw[AW];refine List.nodup_append.2 ⟨h.nodup,by simpa[bls]using hno,fun a ha b hb=>?_⟩;have h1:=hM a (h.bl a ha).1;have h2:=hbl b (by simpa[bls]using hb);omega
theorem FI.R6{M:Nat→Prop}{w0:World}{b':aB}{Ds:List DB}(h:FI M w0 b' Ds){b:ah}{y:Value}(hb:b.Kind≠1):FI M w0 b' (Ds++[⟨false,b,y,[]⟩]):=by
 refine⟨h.gr,fun D' hD'=>?_,?_⟩
 · rcases List.mem_append.1 hD' with hD'|hD'
   · exact h.ok D' hD'
   · rw[List.mem_singleton.1 hD'];exact⟨fun hq=>(by cases hq),fun _=>⟨rfl,hb⟩⟩
 · rw[AW];have:bls [(⟨false,b,y,[]⟩:DB)]=[]:=rfl;rw[this,List.append_nil];exact h.nodup
theorem Rm{M:Nat→Prop}{w0 w:World}{b':aB}{ι:Env}{s:AS}{Ds:List DB}{b:ah}{n:Int}{x:Value}(hf:FI M w0 b' Ds)(hs:HS M b' w ι s)(hr:look 72 s.r=some ⟨48,59,Ds.map DB.d8⟩)(hx:Rel (NN M ι) w ι (.tup [.agg (List.set (ap ({ b with Kids:=[] }:ah)) 58 (.ref 72)),iI n]) x):
   ∃v,Below w0.heap.size w0 w∧QT ({ b with Kids:=Ds.map DB.plain },n) w0 w v∧fb v x:=by
 cases hx with
 | tup _ _ vs hlen hr9 =>
   match vs,hlen with
   | [p,q],_ =>
     have hp:=hr9 0 _ p rfl rfl;have hq:=hr9 1 _ q rfl rfl;have hy:∃y,ι 72=some y∧y.oneCell'=true:=by
       cases hp with
       | agg _ _ us hl h1 hrr =>
         have hlt:58<us.length:=by rw[←hl];show 58<59;omega
         have h9:=hrr 58 (.ref 72) _ (List.getElem?_set_self (show 58<59 by omega)) (List.getElem?_eq_getElem hlt);have h8:=h1 _ (List.getElem_mem hlt);obtain⟨y,hy⟩:=dt 72 _ _ _ _ h9;exact⟨y,hy,by rw[←Dv hy _ h9];exact h8⟩
     obtain⟨y,hy,hy1⟩:=hy;obtain⟨Ds',h1,h2,h3,h4,h5,h6⟩:=T9 hs hr (by decide) hy ({ b with Kids:=[] }:ah) (fun D hD=>⟨fun hq=>⟨((hf.ok D hD).1 hq).1,fun g hg=>(((hf.ok D hD).1 hq).2 g hg).1⟩,(hf.ok D hD).2⟩) hf.nodup;refine⟨.tup [.agg (DB.cells ⟨true,{ b with Kids:=[] },y,Ds'⟩),iI n],⟨hs.below.os.trans hf.gr.os,hs.below.tape.trans hf.gr.tape,hs.below.output.trans hf.gr.output,Nat.le_trans hf.gr.size hs.below.size,fun k hk=>?_⟩,⟨⟨true,{ b with Kids:=[] },y,Ds'⟩,rfl,?_,rfl,h3,fun g hg=>?_,h5⟩,fun N w2 ι2=>.tup _ _ [p,q] rfl fun i a v ha hv=>?_⟩
     · have hn:¬ b'.G k:=fun hG=>by
         rcases hf.gr.O k (.inr hG)with h9|h9
         · exact absurd hk (Nat.not_lt.2 h9)
         · exact h9
       exact(hs.below.block k (Nat.lt_of_lt_of_le hk hf.gr.size) hn).trans (hf.gr.block k hk (fun h=>h) (fun h=>h))
     · show({ b with Kids:=fd Ds' }:ah)=_;rw[h1,ja]
     · simp only[DB.bl,List.mem_append]at hg;rcases hg with hg|hg
       · cases hb:bo (some y) with
         | none=>rw[hb]at hg;cases hg
         | some g' =>
           rw[hb]at hg;rw[List.mem_singleton.1 hg];obtain⟨g1,g2⟩:=h6 g' hb;rcases hf.gr.O g' g1 with g3|g3
           · exact⟨g3,g2⟩
           · exact g3.elim
       · rw[h2]at hg;have h9:=hf.bl g hg;exact⟨h9.2,Nat.lt_of_lt_of_le (hs.old g h9.1).1 hs.below.size⟩
     · match i,ha,hv with
       | 0,ha,hv =>
         injection ha with ha;injection hv with hv;subst ha;subst hv
         exact Al hp (by show 58<59;omega) rfl (Dv hy) hy1 N w2 ι2
       | 1,ha,hv =>
         injection ha with ha;injection hv with hv;subst ha;subst hv
         exact wx rfl hq
abbrev kj(n:Nat):ao:=.c (cat Tryz.f41 (pn n))
abbrev DW:List ao:=[.b 0,kj 127]
abbrev Ej:List ao:=kl (AI M b') (qT w0 r) DW (cat Tryz.f41 (pn 504)) m1::DW
def VT:AS:=⟨[(0,.sl (lm aH v1)),(1,iI v8),(4,.ptr 4 0),(6,.ptr 6 0),(7,.int .u8 ((gD v1 v2).Depth)),(8,.bool v3),(60,.bool v10)],[(4,List.set (ap cA) 58 (.nils)),(6,List.set (ap ({ cA with Kind:=1,Node:=(aa (10+v2)),Style:=(gD v1 v2).Style }:ah)) 58 (.ref 72))],[(72,⟨48,59,lm DB.d8 v9⟩)],[4,6,72]⟩
def Mg:AS:=⟨[(0,.sl (lm aH v1)),(1,iI v8),(4,.ptr 4 0),(6,.ptr 6 0),(7,.int .u8 ((gD v1 v2).Depth)),(8,.bool v3)],[(4,List.set (ap cA) 58 (.nils)),(6,List.set (ap ({ cA with Kind:=1,Node:=(aa (10+v2)),Style:=(gD v1 v2).Style }:ah)) 58 (.ref 72))],[(72,⟨48,59,lm DB.d8 v9⟩)],[4,6,72]⟩
def ZH:AS:=⟨[(0,.sl (lm aH v1)),(1,iI (aa (v2+1))),(4,.ptr 4 0),(6,.ptr 6 0),(7,.int .u8 ((gD v1 v2).Depth)),(8,.bool v3)],[(4,List.set (ap cA) 58 (.nils)),(6,List.set (ap ({ cA with Kind:=1,Node:=(aa (10+v2)),Style:=(gD v1 v2).Style }:ah)) 58 (.nils))],[],[4,6]⟩
abbrev Cn:Prop:=∀{M:Nat→Prop} {b':aB} {v8:Int} {v9:(List DB)},FI M w0 b' v9→L1 v8 (v9.map DB.plain)=some r→LP (AI M b') (qT w0 r) DW (cat Tryz.f41 (pn 504)) m1 (Mg v1 v2 v3 v8 v9)
def KD(K:Kn):Prop:=∀{l:List aM} {a:Int} {r:ah×Int},K.gQ l a=some r→ox Tryz.prog 41 [.sl (lm aH l),iI a] (QT r)
variable{M w0 b' r v1 v2 v3 v8 v9 v10 m1 L1}{K:Kn}{n:Nat}
theorem GD(hK:KD K)(hL1:Cn w0 r v1 v2 v3 m1 L1)(hf:FI M w0 b' v9)(h:jd K n v1 v2 v3 v8 (v9.map DB.plain) L1 v10=some r):Fa M w0 b' r (kj 2017::kj 1009::Ej M w0 b' r m1) (VT v1 v2 v3 v8 v9 v10):=by
 unfold jd at h;obtain⟨h27,h⟩|⟨h27,h⟩:=am h
 ·refine ae 60 h27 (bM (ks':=kj 8073::kj 4037 :: .b 1::Ej M w0 b' r m1) 6 ?_);obtain⟨h28,h⟩|⟨h28,h⟩:=am h
  ·refine ae 61 h28 (av 4 5 2 (ai 2 ?_));obtain⟨v11,h29,h⟩:=bind_some h;refine JX (hK h29) (fun v w b2 hQ hM hsz hG hgr=>?_);obtain⟨⟨nd,Db,Dy,Dk⟩,hnd,hpl,hv,hok,hbl,hno⟩:=hQ;simp only at hnd;subst hnd;subst hv;refine⟨fun g=>g∈(⟨true,Db,Dy,Dk⟩:DB).bl,hbl,?_⟩;have hf2:=hf.add hM hsz hgr rfl hok hbl hno;refine ab (av 2 3 1 (ai 3 (au (eJ DB.d8 ([⟨true,Db,Dy,Dk⟩]:List DB) (new:=[DB.cells ⟨true,Db,Dy,Dk⟩]) rfl) ?_)));obtain⟨h30,h⟩:=ax h;rw[List.length_map]at h30;refine au (cc 72 72 48 59 DB.d8 (rfl) (DB.Kd) (M:=[⟨true,Db,Dy,Dk⟩]) h30) (ab ?_);have h':L1 v11.2 ((v9++[(⟨true,Db,Dy,Dk⟩:DB)]).map DB.plain)=some r:=by rw[List.map_append,List.map_cons,List.map_nil,hpl];exact h
   exact ac 5 (bc (hL1 hf2 h'))
  ·refine ae 61 h28 (dQ 2 3 3 (bA [0,1,4,6,7,8] [4,6] [72] ?_));obtain⟨h31,h⟩:=ax h;obtain⟨h32,h⟩:=ax h;obtain⟨h33,h⟩:=ax h;rw[List.length_map]at h33;have h':L1 (aa (v8+1)) ((v9++[(⟨false,({ cA with Kind:=3,Style:=(gD v1 v8).Style,Text:=(gD v1 v8).Text }:ah),.nilIface,[]⟩:DB)]).map DB.plain)=some r:=by rw[List.map_append];exact h
   exact bw 2 (nu 75 [.ptr 6 58,.ref 72,.sl (lm aH v1),iI v8,.cptr (aH (gD v1 v8)),.cptr (List.drop 5 (aH (gD v1 v8))),.agg (aE ((gD v1 v8).Style)),.sl (lm aH v1),iI v8,.cptr (aH (gD v1 v8)),.cptr (List.drop 2 (aH (gD v1 v8))),.str ((gD v1 v8).Text),.agg (List.set (ap ({ cA with Kind:=3,Style:=(gD v1 v8).Style,Text:=(gD v1 v8).Text }:ah)) 58 (.nils)),.sl (lm DB.d8 [(⟨false,({ cA with Kind:=3,Style:=(gD v1 v8).Style,Text:=(gD v1 v8).Text }:ah),.nilIface,[]⟩:DB)])]++nu 90 [.ptr 6 58]) [] [] [eb 89 72 ⟨48,59,lm DB.d8 (v9++[(⟨false,({ cA with Kind:=3,Style:=(gD v1 v8).Style,Text:=(gD v1 v8).Text }:ah),.nilIface,[]⟩:DB)])⟩,bS Tryz.prog 95 Tryz.f41 (pn 8074) 16] (aq [.v 0 2,.v 0 1,.v 0 2,.v 0 2] (ag (dm (lo:=0) (k:=2) (cu ⟨(by kernel_rfl),(cw (bu aH aH h31 (cR) ((fun _=>rfl))) (by kernel_rfl))⟩ (cu ⟨(by kernel_rfl),(cw (bu aH aH h31 (cR) ((fun _=>rfl))) (by kernel_rfl))⟩ dp))) (aq [.v 0 2,.v 0 2,.v 0 2,.v 0 2] (ag (dm (lo:=0) (k:=2) (cu ⟨(by kernel_rfl),(cw (bu aH aH h32 (cR) ((fun _=>rfl))) (by kernel_rfl))⟩ (cu ⟨(by kernel_rfl),(cw (bu aH aH h32 (cR) ((fun _=>rfl))) (by kernel_rfl))⟩ dp))) (aq [.v 0 2,.v 0 2,.v 0 2] (aR (eJ DB.d8 ([⟨false,({ cA with Kind:=3,Style:=(gD v1 v8).Style,Text:=(gD v1 v8).Text }:ah),.nilIface,[]⟩]:List DB) (new:=[DB.d8 ⟨false,({ cA with Kind:=3,Style:=(gD v1 v8).Style,Text:=(gD v1 v8).Text }:ah),.nilIface,[]⟩]) rfl) (ag (cy (m:=0) (cc 89 72 48 59 DB.d8 (rfl) (DB.Kd) (M:=[(⟨false,({ cA with Kind:=3,Style:=(gD v1 v8).Style,Text:=(gD v1 v8).Text }:ah),.nilIface,[]⟩:DB)]) h33)) (aq [.v 1 1] (ag (bU 1) bz))))))))) (ac 2 (bc (hL1 (hf.R6 (by show(3:Int)≠1;omega)) h')))
 ·refine ae 60 h27 (aJ 8 ?_);cases h;refine na (l:=[.agg (List.set (ap ({ (⟨1,(aa (10+v2)),(gD v1 v2).Style,⟨#[]⟩,0,0,[]⟩:ah)with Kids:=[] }:ah)) 58 (.ref 72)),iI v8]) (by kernel_rfl) (fun w ι x hs hx=>?_);obtain⟨v,g1,g2,g3⟩:=Rm hf hs (by kernel_rfl) hx;exact⟨x,v,rfl,g1,g2,g3⟩
theorem TU(hK:KD K)(hL1:Cn w0 r v1 v2 v3 m1 L1)(hf:FI M w0 b' v9)(h:jG K n v1 v2 v3 L1 v8 (v9.map DB.plain)=some r):Fa M w0 b' r (kj 504::Ej M w0 b' r m1) (Mg v1 v2 v3 v8 v9):=by
 unfold jG at h;refine bN 4 5 3 2 (ai 2 (au (bj aH v1) (aO 5 2 ?_)));obtain⟨h25,h⟩|⟨h25,h⟩:=am h
 ·refine aC 52 h25 (aO 7 2 ?_);obtain⟨h26,h⟩:=ax h;exact au (bu aH aH h26 (cR) ((fun _=>rfl))) (ab (ac 0 (GD hK hL1 hf h)))
 ·exact aC 52 h25 (ab (ac 0 (GD hK hL1 hf h)))
theorem Un(hK:KD K)(m:Nat):Cn w0 r v1 v2 v3 m (iC K n v1 v2 v3 m):=by
 induction m with
 | zero=>intro M b' v8 v9 hf h;cases h
 | succ m ih=>intro M b' v8 v9 hf h;have h:jG K n v1 v2 v3 (iC K n v1 v2 v3 m) v8 (v9.map DB.plain)=some r:=h;exact aZ (TU hK ih hf h)
theorem CE(hK:KD K)(hf:FI M w0 b' [])(h:jM K n v1 v2 v3=some r):Fa M w0 b' r [kj 63] (ZH v1 v2 v3):=by
 unfold jM at h;exact eU 4 0 3 2 (bA [0,1,4,6,7,8] [4,6] [] (yN 72 6 58 48 59 (ac 0 (bK (p:=pn 252) n (Un hK n hf h)))))
theorem PP(hK:KD K)(h:jy K n v1 v2=some r):ox Tryz.prog 41 [.sl (lm aH v1),iI v2] (QT r):=by
 refine WX (c:=cat Tryz.f41 (pn 1)) Tryz.func41 (by kernel_rfl) _ Tryz.ntmps41 (of_decide_eq_true (by kernel_rfl)) fun M w0=>?_;have hf:FI M w0 (jc w0) []:=⟨.refl _ _,fun D hD=>(by cases hD),List.nodup_nil⟩;refine ba ⟨[(0,.sl (lm aH v1)),(1,iI v2)],[],[],[]⟩ ?_;unfold jy at h;refine av 6 7 3 (ai 4 ?_);obtain⟨h1,h⟩:=ax h;refine au (bu aH aH h1 (cR) ((fun _=>rfl))) (ab (av 2 3 1 (ai 2 ?_)));obtain⟨h2,h⟩:=ax h;refine au (bu aH aH h2 (cR) ((fun _=>rfl))) (ab (av 6 7 3 (ai 2 (au (bj aH v1) (aO 5 2 ?_)))));obtain⟨h3,h⟩|⟨h3,h⟩:=am h
 ·refine aC 30 h3 (aO 7 2 ?_);obtain⟨h4,h⟩:=ax h;refine au (bu aH aH h4 (cR) ((fun _=>rfl))) (aO 14 6 ?_);obtain⟨h5,h⟩|⟨h5,h⟩:=am h
  ·refine aC 39 h5 (aO 16 2 ?_);obtain⟨h6,h⟩:=ax h;exact au (bu aH aH h6 (cR) ((fun _=>rfl))) (ab (ac 0 (CE hK hf h)))
  ·exact aC 39 h5 (ab (ac 0 (CE hK hf h)))
 ·exact aC 30 h3 (ab (ac 0 (CE hK hf h)))
theorem I2:∀(m:Nat) {l:List aM} {a:Int} {r:ah×Int},gL K n m l a=some r→ox Tryz.prog 41 [.sl (lm aH l),iI a] (QT r)
 | 0,_,_,_,h=>by cases h
 | m+1,l,a,r,h=>PP (K:={ K with gQ:=gL K n m }) (fun h=>I2 m h) h
end
theorem Jn{f:ah→Option ah}:∀{l m:List ah},mq f l=some m→m.length=l.length∧∀(j:Nat) (k:ah),l[j]?=some k→∃k',m[j]?=some k'∧(if (k.Kind == 1)=true then f k else some k)=some k'
 | [],m,h=>by injection h with h;subst h;exact⟨rfl,fun j k hk=>by simp at hk⟩
 | k::r,m,h=>by
   obtain⟨k',h1,h⟩:=bind_some h;obtain⟨r',h2,h⟩:=bind_some h;injection h with h;subst h
   obtain⟨g1,g2⟩:=Jn h2;refine⟨by simp[g1],fun j q hq=>?_⟩;cases j with
   | zero=>simp at hq;subst hq;exact⟨k',rfl,h1⟩
   | succ j=>simpa using g2 j q (by simpa using hq)
theorem Hd:∀{l:List DB} {i j:Nat} {a b:DB} {g:Nat},(bls l).Nodup→i≠j→l[i]?=some a→l[j]?=some b→g∈a.bl→g∈b.bl→False
 | [],i,j,a,b,g,_,_,h,_,_,_=>by simp at h
 | d::r,i,j,a,b,g,hn,hij,hi,hj,ha,hb=>by
   have hn':(d.bl++bls r).Nodup:=hn;obtain⟨n1,n2,n3⟩:=List.nodup_append.1 hn';cases i with
   | zero =>
     cases j with
     | zero=>exact hij rfl
     | succ j =>
       simp at hi hj;subst hi;exact n3 g ha g (gw.2 ⟨b,List.mem_of_getElem? hj,hb⟩) rfl
   | succ i =>
     cases j with
     | zero =>
       simp at hi hj;subst hj;exact n3 g hb g (gw.2 ⟨a,List.mem_of_getElem? hi,ha⟩) rfl
     | succ j=>exact Hd (i:=i) (j:=j) n2 (fun e=>hij (by omega)) (by simpa using hi) (by simpa using hj) ha hb
structure DI(M:Nat→Prop)(w0:World)(y:Value)(b':aB)(Ds X:List DB):Prop where
 gr:dV (fun g=>g∈bls Ds) (jn w0 700 y) b'
 ok:∀D∈X,c7 b'.w D
 sub:∀g∈bls Ds,M g
 bl:X.map DB.bl=Ds.map DB.bl
theorem DI.bls{M:Nat→Prop}{w0:World}{y:Value}{b':aB}{Ds X:List DB}(h:DI M w0 y b' Ds X):bls X=bls Ds:=by rw[kE,kE,h.bl]
theorem DI.put{M:Nat→Prop}{w0:World}{y:Value}{b' b2:aB}{Ds X:List DB}(h:DI M w0 y b' Ds X)(hn:(Go.Proofs.YtocgkfoifehcbaaGreat.bls Ds).Nodup){i:Nat}{D D':DB}(hi:X[i]?=some D)(hM:∀k,M k→k<b'.w.heap.size∧¬ b'.G k)(hg:dV (fun g=>g∈D.bl) b' b2)(hok:c7 b2.w D')(hbl:D'.bl=D.bl):DI M w0 y b2 Ds (X.set i D'):=by
 have hmem:∀g∈D.bl,g∈Go.Proofs.YtocgkfoifehcbaaGreat.bls Ds:=fun g hgD=>by rw[←h.bls];exact gw.2 ⟨D,List.mem_of_getElem? hi,hgD⟩
 refine⟨h.gr.trans (hg.mono hmem),fun Dj hDj=>?_,h.sub,?_⟩
 · obtain⟨j,hj⟩:=List.getElem?_of_mem hDj;by_cases e:i=j
   · subst e;rw[List.getElem?_set_self (List.getElem?_eq_some_iff.1 hi).1]at hj;injection hj with hj;subst hj;exact hok
   · rw[List.getElem?_set_ne e]at hj;refine (h.ok Dj (List.mem_of_getElem? hj)).bR fun g hgj=>?_;have hgM:g∈Go.Proofs.YtocgkfoifehcbaaGreat.bls X:=gw.2 ⟨Dj,List.mem_of_getElem? hj,hgj⟩;have:=hM g (h.sub g (by rw[←h.bls];exact hgM));exact hg.block g this.1 this.2 (fun hgi=>Hd (by rw[h.bls];exact hn) e hi hj hgi hgj)
 · rw [←h.bl,List.map_set,hbl];exact List.ext_getElem? fun k=>by
     rw[List.getElem?_set];split
     · rename_i e;subst e;have:=(List.getElem?_eq_some_iff.1 hi).1;rw[List.length_map,if_pos this,List.getElem?_map,hi];rfl
     · rfl
theorem xJ{M:Nat→Prop}{w0 w:World}{b':aB}{ι:Env}{s:AS}{Ds X:List DB}{b:ah}{y x:Value}(hf:DI M w0 y b' Ds X)(hs:HS M b' w ι s)(hr:look 700 s.r=some ⟨48,59,X.map DB.cells⟩)(hy1:y.oneCell'=true)(hx:Rel (NN M ι) w ι (.agg (List.set (ap ({ b with Kids:=[] }:ah)) 58 (.ref 700))) x):
   w.os=w0.os∧w.tape=w0.tape∧w.output=w0.output∧w0.heap.size≤w.heap.size∧(∀k,k<w0.heap.size→¬ k∈(⟨true,{ b with Kids:=[] },y,Ds⟩:DB).bl→w.heap[k]?=w0.heap[k]?)∧c7 w ⟨true,{ b with Kids:=[] },y,X⟩∧fb (.agg (DB.cells ⟨true,{ b with Kids:=[] },y,X⟩)) x:=by
 have hy:ι 700=some y:=(hs.pin 700 y (by rw[hf.gr.pv];simp[jn])).1;refine⟨hs.below.os.trans hf.gr.os,hs.below.tape.trans hf.gr.tape,hs.below.output.trans hf.gr.output,Nat.le_trans hf.gr.size hs.below.size,fun k hk hn=>?_,?_,?_⟩
 · have hnG:¬ (jn w0 700 y).G k:=fun hG=>hn (q9 hG);have hnE:¬ k∈bls Ds:=fun hE=>hn (by simp only [DB.bl,List.mem_append]; exact .inr hE);have hnb:¬ b'.G k:=fun hG=>by
     rcases hf.gr.O k (.inr hG)with h9|h9
     · exact absurd hk (Nat.not_lt.2 h9)
     · exact hnG h9
   exact(hs.below.block k (Nat.lt_of_lt_of_le hk hf.gr.size) hnb).trans (hf.gr.block k hk hnG hnE)
 · obtain⟨v,xs,e1,e2,e3,e4,e5⟩:=hs.arrs 700 _ hr (by rw[hy];rfl);rw[hy]at e1;injection e1 with e1;subst e1
   refine .node _ y X xs (by simpa using e2) e4 (fun j D hD i c hc=>?_) (fun D hD=>(hf.ok D hD).bR fun g hg=>?_)
   · obtain⟨x,hx,hrx⟩:=e5 j D.cells (by rw[List.getElem?_map,hD];rfl) i c hc;exact⟨x,hx,Bd hc (hrx.flat (by decide))⟩
   · have hold:=hs.old g (hf.sub g (by rw[←hf.bls];exact gw.2 ⟨D,hD,hg⟩));exact hs.below.block g hold.1 hold.2
 · exact Al hx (by show 58<59;omega) rfl (Dv hy) hy1
noncomputable section
variable(M:Nat→Prop)(w0:World)(b':aB)(l:List aM)(b:ah)(y:Value)(Ds Ds' X:List DB)(v5:Bool)(v6:Int)(Dz:DB)(m1:Nat)
abbrev C6:Cx:=⟨Tryz.prog,52,M,b'⟩
abbrev qR:=bodyPost Tryz.prog Tryz.f42 (fun e w'=>∃x,e=.returned x∧w'.os=w0.os∧w'.tape=w0.tape∧w'.output=w0.output∧w0.heap.size≤w'.heap.size∧(∀k,k<w0.heap.size→¬ k∈(⟨true,{ b with Kids:=[] },y,Ds⟩:DB).bl→w'.heap[k]?=w0.heap[k]?)∧c7 w' Dz∧fb (.agg (DB.cells Dz)) x)
abbrev TD(ks:List ao)(s:AS):=VE (C6 M b') (qR w0 b y Ds Dz) ks .normal s
abbrev fh(n:Nat):ao:=.c (cat Tryz.f42 (pn n))
abbrev RR:List ao:=[.b 0,fh 15]
abbrev TR:List ao:=kl (C6 M b') (qR w0 b y Ds Dz) RR (cat Tryz.f42 (pn 116)) m1::RR
def sR:AS:=⟨[(1,.sl (lm aH l)),(2,.ptr 2 0),(4,.ptr 4 0),(5,.bool v5),(6,iI v6)],[(2,List.set (ap ({ b with Kids:=[] }:ah)) 58 (.ref 700)),(4,List.set (ap cA) 58 (.nils))],[(700,⟨48,59,lm DB.cells X⟩)],[2,4,700,1000700,700]⟩
variable{M w0 b' l b y Ds Ds' X v5 v6 Dz m1}
theorem Tf(hf:DI M w0 y b' Ds X)(hy1:y.oneCell'=true){b2:ah}(hz:Dz=⟨true,{ b2 with Kids:=[] },y,X⟩)(h:gJ l b [] v5=some b2):TD M w0 b' b y Ds Dz [fh 15] (sR l b X v5 v6):=by
 refine bM (ks':=[fh 30,fh 31]) 1 (ai 4 (ab ?_));cases v5 with
 | false =>
   unfold gJ at h;have hb:=Option.some.inj h;subst hb;subst hz;refine aJ 8 ?_;refine na (l:=[.agg (List.set (ap ({ b with Kids:=[] }:ah)) 58 (.ref 700))]) (by kernel_rfl) (fun w ι x hs hx=>?_);obtain⟨g1,g2,g3,g4,g5,g6,g7⟩:=xJ hf hs (by kernel_rfl) hy1 hx;exact⟨x,rfl,g1,g2,g3,g4,g5,g6,g7⟩
 | true =>
   unfold gJ at h;refine bM (ks':=[fh 124,fh 125,fh 63]) 2 (ai 4 ?_);obtain⟨h1,h⟩|⟨h1,h⟩:=am h
   · refine aC 39 h1 ?_;refine aO 8 4 ?_;obtain⟨h2,h⟩:=ax h;refine au (bu aH aH h2 (cR) ((fun _=>rfl))) (aO 13 4 ?_);obtain⟨h3,h⟩|⟨h3,h⟩:=am h
     · refine aC 48 h3 ?_;refine ab ?_;have hb:=Option.some.inj h;subst hb;subst hz;refine aJ 5 ?_;refine na (l:=[.agg (List.set (ap ({ ({ b with Kind:=6 }:ah)with Kids:=[] }:ah)) 58 (.ref 700))]) (by kernel_rfl) (fun w ι x hs hx=>?_);obtain⟨g1,g2,g3,g4,g5,g6,g7⟩:=xJ (b:={ b with Kind:=6 }) hf hs (by kernel_rfl) hy1 hx;exact⟨x,rfl,g1,g2,g3,g4,g5,g6,g7⟩
     · refine aC 48 h3 ?_;refine ab ?_;have hb:=Option.some.inj h;subst hb;subst hz;refine aJ 5 ?_;refine na (l:=[.agg (List.set (ap ({ b with Kids:=[] }:ah)) 58 (.ref 700))]) (by kernel_rfl) (fun w ι x hs hx=>?_);obtain⟨g1,g2,g3,g4,g5,g6,g7⟩:=xJ hf hs (by kernel_rfl) hy1 hx;exact⟨x,rfl,g1,g2,g3,g4,g5,g6,g7⟩
   · refine aC 39 h1 ?_;refine ab ?_;have hb:=Option.some.inj h;subst hb;subst hz;refine aJ 5 ?_;refine na (l:=[.agg (List.set (ap ({ b with Kids:=[] }:ah)) 58 (.ref 700))]) (by kernel_rfl) (fun w ι x hs hx=>?_);obtain⟨g1,g2,g3,g4,g5,g6,g7⟩:=xJ hf hs (by kernel_rfl) hy1 hx;exact⟨x,rfl,g1,g2,g3,g4,g5,g6,g7⟩
def uL(l:List aM)(D D':DB):Prop:=D'.bl=D.bl∧((D.b.Kind == 1)=true→kD Tryz.prog 42 [.agg D.cells,.sl (lm aH l)] (fun g=>g∈D.bl) (fun w=>c7 w D) (.agg D'.cells) (fun w=>c7 w D'))∧((D.b.Kind == 1)=false→D'=D)
structure Mx(Ds Ds' X:List DB)(i:Nat)(v5:Bool):Prop where
 len:X.length=Ds.length
 le:i≤Ds.length
 lo:∀j,j<i→X[j]?=Ds'[j]?
 hi:∀j,i≤j→X[j]?=Ds[j]?
 blocks:v5=(Ds.take i).any fun D=>D.b.Kind == 1
theorem WM(hn:(bls Ds).Nodup)(hlen:Ds'.length=Ds.length)(hto:∀(j:Nat) (D D':DB),Ds[j]?=some D→Ds'[j]?=some D'→uL l D D')(hmax:Ds.length≤maxLen)(hy1:y.oneCell'=true){b2:ah}(hz:Dz=⟨true,{ b2 with Kids:=[] },y,Ds'⟩)(h:gJ l b [] (Ds.any fun D=>D.b.Kind == 1)=some b2):
   ∀(m:Nat) {M:Nat→Prop} {b':aB} {X:List DB} {i:Nat} {v5:Bool} {v6:Int},v6=(i:Int)→Mx Ds Ds' X i v5→DI M w0 y b' Ds X→Ds.length<m+i→LP (C6 M b') (qR w0 b y Ds Dz) RR (cat Tryz.f42 (pn 116)) m (sR l b X v5 v6):=by
 intro m
 induction m with
 | zero=>intro M b' X i v5 v6 _ hX _ hm;have:=hX.le;omega
 | succ m ih =>
   intro M b' X i v5 v6 hi hX hf hm;refine aZ (bM (ks':=fh 464::fh 465::fh 233::TR M w0 b' b y Ds Dz m) 2 (ai 3 (au (bj DB.cells X) (aO 5 1 ?_))));by_cases hlt:i<Ds.length
   · have h12:decide (v6<(X.length:Int))=true:=decide_eq_true (by rw [hX.len]; omega);refine aC 12 h12 (ab ?_);have hXi:=hX.hi i (Nat.le_refl _);have hDs:Ds[i]?=some (Ds[i]'hlt):=List.getElem?_eq_getElem hlt;have hDs':Ds'[i]?=some (Ds'[i]'(by omega)):=List.getElem?_eq_getElem _;generalize Ds[i]'hlt=D at hDs;generalize Ds'[i]'(by omega:i<Ds'.length)=D' at hDs';rw [hDs] at hXi;have hget:X.getD v6.toNat default=D:=by
       rw[hi,List.getD_eq_getElem?_getD,Int.toNat_natCast,hXi];rfl
     have hinb:aG v6 X.length=true:=by
       unfold aG;rw[Bool.and_eq_true];exact⟨decide_eq_true (by omega),decide_eq_true (by rw[hX.len];omega)⟩
     have hw:aa (v6+1)=((i+1:Nat):Int):=by
       rw[hi];unfold maxLen at hmax;have:(0:Int)≤(i:Int)+1∧(i:Int)+1<9223372036854775808:=by omega
       unfold aa;rw[IntKind.wrap_i64];omega
     obtain⟨t1,t2,t3⟩:=hto i D D' hDs hDs';refine bM (ks':=fh 1864::fh 1865 :: .b 1::fh 467::TR M w0 b' b y Ds Dz m) 5 (ai 3 (au (ca 700 59 DB.cells hinb) (aO 5 1 (au (br 3 0 DB.cells DB.cells (bf hinb).2 (fun _=>rfl)) (ab ?_)))));cases hk:(D.b.Kind == 1) with
     | true =>
       have h21:((X.getD v6.toNat default).b.Kind == 1)=true:=by rw[hget];exact hk
       refine ae 21 h21 (bM (ks':=fh 7461 :: .b 1::fh 467::TR M w0 b' b y Ds Dz m) 3 (bA [1,2,4,5,6] [2,4] [700] ?_));have hput:kD Tryz.prog 42 [.agg (X.getD v6.toNat default).cells,.sl (lm aH l)] (fun g=>g∈D.bl) (fun w=>c7 w D) (.agg D'.cells) (fun w=>c7 w D'):=by rw[hget];exact t2 hk
       have hmem:∀g∈D.bl,g∈bls Ds:=fun g hg=>gw.2 ⟨D,List.mem_of_getElem? hDs,hg⟩;refine Wp 9 31 [(22,.ptr 2 58),(23,.ref 700),(24,iI v6),(25,.ptr 2 58),(26,.ref 700),(27,iI v6),(28,.eptr 700 59 v6.toNat 0),(29,.agg (X.getD v6.toNat default).cells),(30,.sl (lm aH l))] hput (fun g hg=>hf.sub g (hmem g hg))
         (fun w _ hw=>(hf.ok D (List.mem_of_getElem? hXi)).bR hw)
         (aq (vz 6) (aR (ca 700 59 DB.cells (L:=X) (i:=v6) hinb) (aR (br 48 0 DB.cells DB.cells (bf hinb).2 (fun _=>rfl)) (aq [.v 0 1] lR))))
         (aq (vz 6) (aR (ca 700 59 DB.cells (L:=X) (i:=v6) hinb) (aR (br 48 0 DB.cells DB.cells (bf hinb).2 (fun _=>rfl)) (aq [.v 0 1] lR))))
         (fun b3 hg hR hM=>?_)
       have hf2:=hf.put hn hXi hM hg hR t1;refine au (ca 700 59 DB.cells hinb) (au (cJ 700 48 59 0 DB.cells DB.cells D' (bf hinb).2 (fun _=>rfl)) (ab ?_));have hX2:Mx Ds Ds' (List.set X v6.toNat D') (i+1) true:=by
         have hvi:v6.toNat=i:=by omega
         rw[hvi];refine⟨by rw[List.length_set];exact hX.len,hlt,fun j hj=>?_,fun j hj=>?_,?_⟩
         · rw[List.getElem?_set];split
           · rename_i e;subst e;rw[if_pos (by rw[hX.len];exact hlt),hDs']
           · exact hX.lo j (by omega)
         · rw[List.getElem?_set_ne (by omega)];exact hX.hi j (by omega)
         · symm;rw[List.any_eq_true];exact⟨D,List.mem_of_getElem? (i:=i) (by rw[List.getElem?_take,if_pos (by omega)];exact hDs),hk⟩
       have hf3:DI M w0 y b3 Ds (List.set X v6.toNat D'):=by
         have hvi:v6.toNat=i:=by omega
         rw[hvi];exact hf2
       exact ac 2 (bc (ih (v6:=aa (v6+1)) hw hX2 hf3 (by omega)))
     | false =>
       have h21:((X.getD v6.toNat default).b.Kind == 1)=false:=by rw[hget];exact hk
       refine ae 21 h21 ?_;have hX2:Mx Ds Ds' X (i+1) v5:=by
         refine⟨hX.len,hlt,fun j hj=>?_,fun j hj=>hX.hi j (by omega),?_⟩
         · by_cases e:j=i
           · subst e;rw[hXi,hDs',t3 hk]
           · exact hX.lo j (by omega)
         · rw[hX.blocks,List.take_succ,hDs,List.any_append];simp[hk]
       exact ac 4 (bc (ih (v6:=aa (v6+1)) hw hX2 hf (by omega)))
   · have h12:decide (v6<(X.length:Int))=false:=decide_eq_false (by rw[hX.len];omega);refine aC 12 h12 (ab ?_);have hie:i=Ds.length:=by have:=hX.le;omega
     have hXD:X=Ds':=List.ext_getElem? fun j=>by
       by_cases hj:j<i
       · exact hX.lo j hj
       · rw[hX.hi j (by omega),List.getElem?_eq_none (by omega),List.getElem?_eq_none (by omega)]
     have hv5:v5=Ds.any fun D=>D.b.Kind == 1:=by rw[hX.blocks,hie,List.take_length]
     subst hXD;rw[←hv5]at h;exact ac 5 (Tf (v6:=v6) hf hy1 hz h)
end
theorem Ub{l:List aM}{b b2:ah}{q ks:List ah}{c:Bool}(h:gJ l { b with Kids:=q } ks c=some b2):gJ l b [] c=some { b2 with Kids:=[] }∧b2.Kids=ks:=by
 unfold gJ at h⊢;cases c with
 | false=>injection h with h;subst h;exact⟨rfl,rfl⟩
 | true =>
   simp only at h⊢;split at h
   · rename_i h1;rw[if_pos h1];obtain⟨h2,h⟩:=ax h;rw[h2];simp only[az];split at h
     · rename_i h3;rw[if_pos h3];injection h with h;subst h;exact⟨rfl,rfl⟩
     · rename_i h3;rw[if_neg h3];injection h with h;subst h;exact⟨rfl,rfl⟩
   · rename_i h1;rw[if_neg h1];injection h with h;subst h;exact⟨rfl,rfl⟩
theorem J2(D:DB):D.plain.Kind=D.b.Kind:=by rw[DB.Ka]
theorem Ld{N:Nat→Prop}{w:World}{ι:Env}{l:List AV}{c d:AV}{x:Value}{q:Nat}(h:Rel N w ι (.agg (l.set q c)) x)(hq:q<l.length)(hc:∀v,Rel N w ι c v→Rel N w ι d v):Rel N w ι (.agg (l.set q d)) x:=by
 cases h with
 | agg _ _ vs hlen h1 hr =>
   refine .agg _ _ vs (by simpa using hlen) h1 fun i a v ha hv=>?_;by_cases hi:i=q
   · subst hi;rw[List.getElem?_set_self hq]at ha;injection ha with ha;subst ha
     exact hc v (hr i c v (List.getElem?_set_self hq) hv)
   · rw[List.getElem?_set_ne (fun e=>hi e.symm)]at ha;exact hr i a v (by rw[List.getElem?_set_ne (fun e=>hi e.symm)];exact ha) hv
theorem Lc:∀{l:List DB},(bls l).Nodup→∀{D:DB},D∈l→D.bl.Nodup
 | [],_,D,hD=>by cases hD
 | d::r,h,D,hD=>by
   have h':(d.bl++bls r).Nodup:=h;obtain⟨h1,h2,_⟩:=List.nodup_append.1 h';rcases List.mem_cons.1 hD with rfl|hD
   · exact h1
   · exact Lc h2 hD
noncomputable section
theorem HK:∀(m:Nat) {l:List aM} {D:DB} {b2:ah},iH l m D.plain=some b2→D.nd=true→(∃w,c7 w D)→D.bl.Nodup →
   ∃D':DB,D'.plain=b2∧D'.bl=D.bl∧kD Tryz.prog 42 [.agg D.cells,.sl (lm aH l)] (fun g=>g∈D.bl) (fun w=>c7 w D) (.agg D'.cells) (fun w=>c7 w D')
 | 0,_,_,_,h,_,_,_=>by cases h
 | m+1,l,⟨nd,b,y,Ds⟩,b2,h,hnd,⟨w1,hw1⟩,hn=>by
   simp only at hnd;subst hnd;have h:(mq (iH l m) (fd Ds)).bind (fun ks=>gJ l { b with Kids:=fd Ds } ks ((fd Ds).any fun k=>k.Kind == 1))=some b2:=h;obtain⟨ks,hks,h⟩:=bind_some h;obtain⟨h1,h2⟩:=Ub h;obtain⟨g1,g2⟩:=Jn hks;have hany:((fd Ds).any fun k=>k.Kind == 1)=Ds.any fun D=>D.b.Kind == 1:=by
     rw[ja,List.any_map];congr 1;funext D;show(D.plain.Kind == 1)=_;rw[J2]
   rw[hany]at h1;cases hw1 with
   | node _ _ _ xs hrow hone hcell hkids =>
   have hblk:(bls Ds).Nodup:=by
     have:(⟨true,b,y,Ds⟩:DB).bl.Nodup:=hn;simp only[DB.bl]at this;exact(List.nodup_append.1 this).2.1
   have hown:∀g∈bls Ds,bo (some y)≠some g:=fun g hg e=>by
     have h9:(⟨true,b,y,Ds⟩:DB).bl.Nodup:=hn;simp only[DB.bl,e]at h9;exact(List.nodup_cons.1 h9).1 hg
   have step:∀(j:Nat) (D:DB),Ds[j]?=some D→∃D':DB,uL l D D'∧ks[j]?=some D'.plain:=fun j D hD=>by
     obtain⟨k',e1,e2⟩:=g2 j D.plain (by rw[ja,List.getElem?_map,hD];rfl);rw[J2]at e2;have hmem:=List.mem_of_getElem? hD;cases hq:(D.b.Kind == 1) with
     | true =>
       rw[hq]at e2;have hDn:D.nd=true:=by
         have hk:=hkids D hmem;cases hk with
         | leaf b0 y0 hb0 A0 c0 hy0=>exact absurd (by simpa using hq) hb0
         | node b0 y0 k0 x0=>rfl
       have hDd:D.bl.Nodup:=Lc hblk hmem;obtain⟨D',q1,q2,q3⟩:=HK m (by simpa using e2) hDn ⟨w1,hkids D hmem⟩ hDd;exact⟨D',⟨q2,fun _=>q3,fun hf=>by rw[hq]at hf;cases hf⟩,by rw[e1,q1]⟩
     | false =>
       rw[hq]at e2;have e3:D.plain=k':=by simpa using e2
       exact⟨D,⟨rfl,fun ht=>(by rw[hq]at ht;cases ht),fun _=>rfl⟩,by rw[e1,e3]⟩
   obtain⟨Ds',hl',hDs'⟩:=Dm (P:=fun j (D D':DB)=>uL l D D'∧ks[j]?=some D'.plain) Ds 0 (fun j D hD=>by rw[Nat.zero_add];exact step j D hD);have hto:∀(j:Nat) (D D':DB),Ds[j]?=some D→Ds'[j]?=some D'→uL l D D':=fun j D D' hD hD'=>by
     obtain⟨D2,e1,e2,_⟩:=hDs' j D hD;rw[hD']at e1;injection e1 with e1;subst e1;exact e2
   have hpl:fd Ds'=ks:=by
     rw[ja];refine List.ext_getElem? fun j=>?_;rw[List.getElem?_map];by_cases hj:j<Ds.length
     · obtain⟨D2,e1,_,e3⟩:=hDs' j _ (List.getElem?_eq_getElem hj);rw[Nat.zero_add]at e3;rw[e1,e3];rfl
     · rw[List.getElem?_eq_none (by omega),List.getElem?_eq_none (by rw[g1,ja,List.length_map];omega)];rfl
   have hbl':bls Ds'=bls Ds:=by
     rw[kE,kE,td (f:=DB.bl) (g:=DB.bl) hl' fun j a ha=>by obtain⟨D2,e1,e2,_⟩:=hDs' j a ha;exact⟨D2,e1,e2.1⟩]
   have hyA:∃A n c,y=.slice A n c:=by
     rcases hrow.2 with⟨e,_⟩|⟨g,cap,cur,e,_⟩
     · exact⟨_,_,_,e⟩
     · exact⟨_,_,_,e⟩
   have hmax:Ds.length≤maxLen:=by
     rcases hrow.2 with⟨_,e⟩|⟨g,cap,cur,_,_,_,e1,e2,_⟩
     · rw[e];exact Nat.zero_le _
     · exact Nat.le_trans e1 e2
   have hy1:y.oneCell'=true:=by obtain⟨A,n,c,rfl⟩:=hyA;rfl
   have hlen:(ap ({ b with Kids:=[] }:ah)).length=59:=rfl;refine⟨⟨true,{ b2 with Kids:=[] },y,Ds'⟩,?_,?_,?_⟩
   · show({ b2 with Kids:=fd Ds' }:ah)=b2;rw[hpl];subst h2;cases b2;rfl
   · simp only[DB.bl,hbl']
   refine SY (id0:=700) (v0:=y) (ar:=⟨48,59,Ds.map DB.cells⟩) (args':=[.agg (List.set (ap ({ b with Kids:=[] }:ah)) 58 (.ref 700)),.sl (lm aH l)]) (c:=cat Tryz.f42 (pn 1)) Tryz.func42 (by kernel_rfl) _ Tryz.ntmps42 (of_decide_eq_true (by kernel_rfl)) rfl (fun g hg=>q9 hg) (fun w hw=>?_) (fun N w i a b9 x ha hb hr=>?_) (fun M w hM hw=>?_)
   · cases hw with
     | node _ _ _ xs h1 h2 h3 h4 =>
       refine⟨xs,by simpa using h1,fun e he=>?_,h2,fun j e he i c hc=>?_⟩
       · obtain⟨D,_,rfl⟩:=List.mem_map.1 he;exact DB.OK D
       · have he':(Ds.map DB.cells)[j]?=some e:=he;rw[List.getElem?_map]at he';cases hD:Ds[j]? with
         | none=>rw[hD]at he';cases he'
         | some D=>rw[hD]at he';injection he' with he';subst he';exact h3 j D hD i c hc
   · match i,ha,hb with
     | 0,ha,hb =>
       injection ha with ha;injection hb with hb;subst ha;subst hb
       have hp:=Al (y:=y) (show Rel N w bD (.agg (List.set (ap ({ b with Kids:=[] }:ah)) 58 (.vv y))) x from hr) (by rw[hlen];omega) rfl (fun v hv=>by cases hv;rfl) hy1;refine Ld (hp N w (ext bD 700 y)) (by rw[hlen];omega) (fun v hv=>?_);cases hv;obtain⟨A,n,c,rfl⟩:=hyA;exact .ref _ _ _ _ _ (cn _ _ _)
     | 1,ha,hb =>
       injection ha with ha;injection hb with hb;subst ha;subst hb
       exact hr.pure rfl _
   · have hf:DI M w y (jn w 700 y) Ds Ds:=⟨.refl _ _,fun D hD=>(by cases hw with|node _ _ _ xs h1 h2 h3 h4=>exact h4 D hD),fun g hg=>hM g (by simp only[DB.bl,List.mem_append];exact .inr hg) (hown g hg),rfl⟩;exact ba ⟨[(0,.agg (List.set (ap ({ b with Kids:=[] }:ah)) 58 (.ref 700))),(1,.sl (lm aH l))],[],[(700,⟨48,59,Ds.map DB.cells⟩)],[700,1000700]⟩ (ac 8 (bK (p:=pn 58) (Ds.length+1) (WM (Ds':=Ds') (b:=b) (v6:=0) (v5:=false) (i:=0) hblk hl' hto hmax hy1 rfl h1 (Ds.length+1) rfl ⟨rfl,Nat.zero_le _,fun j hj=>absurd hj (Nat.not_lt_zero _),fun j _=>rfl,rfl⟩ hf (by omega))))
section
variable(M:Nat→Prop)(w0:aB)(r:ah)(v1 X:List aM)(v4:Int)(m1:Nat)
abbrev EI:Cx:=⟨Tryz.prog,36,M,w0⟩
abbrev qS:=bodyPost Tryz.prog Tryz.f13 (bC M w0 (fun v _=>v=.agg (ap r)))
abbrev UB(ks:List ao)(s:AS):=VE (EI M w0) (qS M w0 r) ks .normal s
abbrev dS(n:Nat):ao:=.c (cat Tryz.f13 (pn n))
abbrev RS:List ao:=[.b 0,dS 15]
abbrev TS:List ao:=kl (EI M w0) (qS M w0 r) RS (cat Tryz.f13 (pn 116)) m1::RS
def sS:AS:=⟨[(0,.sl (lm aH v1)),(2,.ptr 2 0),(3,.ref 300),(4,iI v4)],[(2,List.set (ap cA) 58 (.nils))],[(300,⟨37,58,lm aH X⟩)],[2,300]⟩
variable{M w0 r v1 X v4 m1}{K:Kn}{n:Nat}
theorem Zw{t:ah×Int}(hX:X=v1.map eL)(h1:gL K n n X 0=some t)(h2:iH X n t.1=some r):UB M w0 r [dS 15] (sS v1 X v4):=by
 refine bM (ks':=[dS 30,dS 31]) 1 (eX 300 (ai 1 ?_));refine JX (I2 n h1) (fun v w b2 hQ hM hsz hG hgr=>?_);obtain⟨⟨nd,Db,Dy,Dk⟩,hnd,hpl,hv,hok,hbl,hno⟩:=hQ;simp only at hnd;subst hnd;subst hv;rw[←hpl]at h2;obtain⟨⟨nd2,Db2,Dy2,Dk2⟩,q1,q2,q3⟩:=HK n h2 rfl ⟨_,hok⟩ hno;refine⟨fun g=>g∈(⟨true,Db,Dy,Dk⟩:DB).bl,hbl,?_⟩;refine ab (bM (ks':=[dS 62,dS 63]) 1 (ai 2 ?_));refine TL q3 (fun k hk=>.inr hk) (fun w _ hw=>hok.bR hw) (fun b3 hg hR hM3=>?_);refine ab (aJ 1 ?_);refine na (l:=[.agg (DB.cells ⟨nd2,Db2,Dy2,Dk2⟩)]) (by kernel_rfl) (fun w' ι x hs hx=>?_);have hgr2:dV (fun g=>g∈(⟨true,Db,Dy,Dk⟩:DB).bl) w0 b3:=(hgr.mono (fun _ h=>h.elim)).trans hg;have hE:∀g,g∈(⟨true,Db,Dy,Dk⟩:DB).bl→w0.w.heap.size≤g:=fun g hg9=>Nat.le_trans hsz (hbl g hg9).1;refine⟨x,.agg (ap r),_,ι,rfl,rfl,hs.QX hgr2 hE (fun k hk=>⟨.inl hk,hM k hk⟩),?_⟩;have hok2:c7 w' ⟨nd2,Db2,Dy2,Dk2⟩:=hR.bR fun g hg9=>by
   rw[q2]at hg9;have:=hs.old g (.inr hg9);exact hs.below.block g this.1 this.2
 have hfr:=hok2.rel (N:=NN M ι) (fun g hg9 hN=>by
   rw[q2]at hg9;rcases hN with hN|⟨id,hN⟩
   · have h8:=(hM g hN).1;have h9:=hE g hg9;exact absurd h8 (Nat.not_lt.2 h9)
   · exact hs.sep (.inr hg9) hN)
 have hx2:Rel (NN M ι) w' ι (.agg (DB.cells ⟨nd2,Db2,Dy2,Dk2⟩)) x:=hx.mono (Nat.le_refl _) (fun b _ hb=>hb.elim (fun h=>.inl (.inl h)) .inr) (fun _ _ _=>rfl) (fun _ _ h=>h);rw[←cX,← q1,DB.GN];exact Ld hx2 (by show 58<59;omega) (fun v hv=>by cases hv;exact hfr.pure rfl _)
theorem aaB{t:ah×Int}(hfit:fits v1.length 480=true)(h1:gL K n n (v1.map eL) 0=some t)(h2:iH (v1.map eL) n t.1=some r):
   ∀(m:Nat) {X:List aM} {i:Nat} {v4:Int},v4=(i:Int)→X=(v1.take i).map eL→i≤v1.length→v1.length<m+i→LP (EI M w0) (qS M w0 r) RS (cat Tryz.f13 (pn 116)) m (sS v1 X v4):=by
 have hmax:v1.length≤maxLen:=by
   unfold fits at hfit;simp only[Bool.and_eq_true,decide_eq_true_eq]at hfit;exact hfit.1
 intro m
 induction m with
 | zero=>intro X i v4 _ _ h1 h2;omega
 | succ m ih =>
   intro X i v4 hi hX hle hm;refine aZ (bM (ks':=dS 464::dS 465::dS 233::TS M w0 r m) 2 (ai 2 (au (bj aH v1) (aO 4 1 ?_))));by_cases hlt:i<v1.length
   · have h11:decide (v4<(v1.length:Int))=true:=decide_eq_true (by omega);refine aC 11 h11 (ab ?_);have hinb:aG v4 v1.length=true:=by
       unfold aG;rw[Bool.and_eq_true];exact⟨decide_eq_true (by omega),decide_eq_true (by omega)⟩
     have hw:aa (v4+1)=((i+1:Nat):Int):=by
       rw[hi];unfold maxLen at hmax;unfold aa;rw[IntKind.wrap_i64];omega
     have hget:v1.getD v4.toNat default=v1[i]:=by
       rw[hi,List.getD_eq_getElem?_getD,Int.toNat_natCast,List.getElem?_eq_getElem hlt];rfl
     refine bM (ks':=dS 1864::dS 1865 :: .b 1::dS 467::TS M w0 r m) 5 (ai 2 (au (bu aH aH hinb (cR) ((fun _=>rfl))) (ab (bM (ks':=dS 7461::dS 3731 :: .b 1::dS 467::TS M w0 r m) 3 ?_))));have hX2:X++[eL (v1.getD v4.toNat default)]=(v1.take (i+1)).map eL:=by
       rw[hX,hget,List.take_succ,List.getElem?_eq_getElem hlt,List.map_append];rfl
     have hfit2:fits (X.length+[eL (v1.getD v4.toNat default)].length) 480=true:=by
       have hl:X.length=i:=by rw[hX,List.length_map,List.length_take];omega
       unfold fits at hfit⊢;simp only[Bool.and_eq_true,decide_eq_true_eq,List.length_singleton]at hfit⊢;omega
     cases hp:((v1.getD v4.toNat default).Style.Position == 2) with
     | true =>
       refine ae 21 hp (bM (ks':=dS 3731 :: .b 1::dS 467::TS M w0 r m) 2 (ai 2 ?_));have hfl:eL (v1.getD v4.toNat default)={ v1.getD v4.toNat default with Style:={ (v1.getD v4.toNat default).Style with Position:=0 } }:=by unfold eL;rw[if_pos hp]
       rw[hfl]at hX2 hfit2;exact au (eJ aH [{ v1.getD v4.toNat default with Style:={ (v1.getD v4.toNat default).Style with Position:=0 } }] (new:=[aH { v1.getD v4.toNat default with Style:={ (v1.getD v4.toNat default).Style with Position:=0 } }]) rfl) (au (cc 27 300 37 58 aH (rfl) (cR) hfit2) (ab (ac 2 (bc (ih (v4:=aa (v4+1)) hw hX2 hlt (by omega))))))
     | false =>
       refine ae 21 hp (bM (ks':=dS 3731 :: .b 1::dS 467::TS M w0 r m) 2 (ai 2 ?_));have hfl:eL (v1.getD v4.toNat default)=v1.getD v4.toNat default:=by unfold eL;rw[if_neg (by rw[hp];simp)]
       rw[hfl]at hX2 hfit2;exact au (eJ aH [v1.getD v4.toNat default] (new:=[aH (v1.getD v4.toNat default)]) rfl) (au (cc 27 300 37 58 aH (rfl) (cR) hfit2) (ab (ac 2 (bc (ih (v4:=aa (v4+1)) hw hX2 hlt (by omega))))))
   · have h11:decide (v4<(v1.length:Int))=false:=decide_eq_false (by omega);refine aC 11 h11 (ab ?_);have hie:i=v1.length:=by omega
     rw[hie,List.take_length]at hX;rw[←hX]at h1 h2;exact ac 5 (Zw (v4:=v4) hX h1 h2)
theorem U1(h:j9 K n v1=some r):aW Tryz.prog 13 [.sl (lm aH v1)] (fun v _=>v=.agg (ap r)):=by
 unfold j9 at h;obtain⟨hfit,h⟩:=ax h;obtain⟨t,h1,h2⟩:=bind_some h;exact bB (cat Tryz.f13 (pn 1)) Tryz.func13 Tryz.ntmps13 fun M w0=>(ba ⟨[(0,.sl (lm aH v1))],[],[],[]⟩ (bM (ks':=[dS 58,.b 0,dS 15]) 8 (bA [0,2,3,4] [2] [] (dw 300 3 37 58 (ac 0 (bK (p:=pn 58) (v1.length+1) (aaB hfit h1 h2 (v1.length+1) (X:=[]) (i:=0) rfl rfl (Nat.zero_le _) (by omega))))))))
end
end
theorem Kq[GS]{K:Kn}{n:Nat}{v1:List aM}{r:ah}(hK:ak K)(h:j9 K n v1=some r):aW Tryz.prog 13 [.sl (lm aH v1)] (fun v _=>v=.agg (ap r)):=U1 h
noncomputable section
variable[GS](M:Nat→Prop)(w0:aB)(r v1:List aM)(v2:eo)(v8:List aM)  
abbrev jK(n:Nat):ao:=.c (cat Tryz.f14 (pn n))
abbrev Yr:Cx:=⟨Tryz.prog,105,M,w0⟩
abbrev T4:=bodyPost Tryz.prog Tryz.f14 (bC M w0 (fun v s=>v=.ref 7∧look 7 s.r=some ⟨37,58,lm aH r⟩))
abbrev XW(ks:List ao)(s:AS):=VE (Yr M w0) (T4 M w0 r) ks .normal s
def X6:AS:=⟨[(5,.ref 7)],[],[(7,⟨37,58,lm aH v8⟩)],[7]⟩
variable{M w0 r v1 v2 v8}{K:Kn}{n:Nat}
theorem I8(hK:ak K)(h:pM K n v8=some r):XW M w0 r [.b 0,jK 63] (X6 v8):=by
 unfold pM at h;refine aJ 4 ?_;cases h;exact dk
theorem RH(hK:ak K)(h:px K n v1 v2=some r):aW Tryz.prog 14 [.sl (lm aH v1),.agg (dP v2)] (fun v s=>v=.ref 7∧look 7 s.r=some ⟨37,58,lm aH r⟩):=by
 refine bB (cat Tryz.f14 (pn 1)) Tryz.func14 Tryz.ntmps14 fun M w0=>(ba ⟨[(0,.sl (lm aH v1)),(1,.agg (dP v2))],[],[],[]⟩ ?_);unfold px at h;refine av 6 7 3 (ai 0 (xO 22 7 (e:=37) (sz:=58) (aO 2 1 ?_)));obtain⟨h1,h⟩:=ax h;refine au (cc 9 7 37 58 aH (rfl) (cR) h1) (ab (bN 4 5 3 2 (ai 1 (au (bj aH v1) (ab ?_)))));obtain⟨h2,h⟩|⟨h2,h⟩:=am h
 ·refine ae 12 h2 (av 4 5 2 (bA [0,3,5] [3] [7] ?_));obtain⟨h3,h⟩:=ax h;obtain⟨h4,h⟩:=ax h;refine bw 2 (nu 13 [.ref 7,.sl (lm aH v1),.cptr (aH (gD v1 (0:Int))),.cptr (List.drop 0 (aH (gD v1 (0:Int)))),.int .u8 ((gD v1 (0:Int)).Depth),.int .u8 (IntKind.wrap .u8 (((gD v1 (0:Int)).Depth)+1)),.ptr 3 2,.ptr 3 7,.agg (aE v2.Spec.Style),.agg (aH ({ mY with Depth:=(IntKind.wrap .u8 (((gD v1 (0:Int)).Depth)+1)),Style:=v2.Spec.Style }:aM)),.sl (lm aH [({ mY with Depth:=(IntKind.wrap .u8 (((gD v1 (0:Int)).Depth)+1)),Style:=v2.Spec.Style }:aM)])]) [] [] [eb 24 7 ⟨37,58,lm aH ((([]:List aM)++v1)++[({ mY with Depth:=(IntKind.wrap .u8 (((gD v1 (0:Int)).Depth)+1)),Style:=v2.Spec.Style }:aM)])⟩,bS Tryz.prog 105 Tryz.f14 (pn 116) 12] (aq [.v 0 1,.v 0 2] (ag (dm (lo:=0) (k:=2) (cu ⟨(by kernel_rfl),(cw (bu aH aH h3 (cR) ((fun _=>rfl))) (by kernel_rfl))⟩ (cu ⟨(by kernel_rfl),(cw (bu aH aH h3 (cR) ((fun _=>rfl))) (by kernel_rfl))⟩ dp))) (aq [.v 0 2,.v 0 2,.v 0 2,.v 0 2,.v 0 2,.v 0 2,.v 0 2,.v 0 1] (ag (cy (m:=0) (cc 24 7 37 58 aH (rfl) (cR) h4)) (ag (bU 1) bz))))) (aJ 2 ?_)
  cases h;exact dk
 ·refine ae 12 h2 (dQ 2 3 3 (ai 4 (au (bj aH v1) (aO 6 1 ?_))));obtain⟨h5,h⟩:=ax h;refine au (A1 .i64 (aa v2.At) h5) (ab ?_);obtain⟨v3,h6,h⟩:=bF h;refine bm (ks':=[jK 501,.b 0,jK 63]) 6 ⟨[(3,.ptr 3 0),(5,.ref 7),(6,iI v3),(35,.int .u8 (Int.tmod v2.Kind 4)),(56,.bool ((Int.tmod v2.Kind 4) == 0))],[(3,dP v2)],[(7,⟨37,58,lm aH (([]:List aM)++v1)⟩)],[3,7]⟩ ?_ (by subst h6;kernel_rfl);obtain⟨h7,h⟩|⟨h7,h⟩:=am h
  ·refine ae 56 h7 (av 4 5 2 (bA [3,5,6] [3] [7] ?_));obtain⟨h8,h⟩:=ax h;obtain⟨h9,h⟩:=ax h;obtain⟨h10,h⟩:=ax h;refine bw 3 (nu 58 [.ref 7,iI v3,.eptr 7 58 (v3.toNat) 0,.eptr 7 58 (v3.toNat) 0,.int .u8 ((gD (([]:List aM)++v1) v3).Depth),.ref 7,iI v3,.eptr 7 58 (v3.toNat) 0,.eptr 7 58 (v3.toNat) 1,.int .u8 ((gD (([]:List aM)++v1) v3).Kind),.ref 7,iI v3,.eptr 7 58 (v3.toNat) 0,.eptr 7 58 (v3.toNat) 3,.int .u8 ((gD (([]:List aM)++v1) v3).Rows),.ptr 3 2,.ptr 3 2,.ptr 3 2,.ptr 3 3,.ptr 3 2,.ptr 3 5]) [] [] [bS Tryz.prog 105 Tryz.f14 (pn 2004) 17,bS Tryz.prog 105 Tryz.f14 (pn 2004) 20,bS Tryz.prog 105 Tryz.f14 (pn 2004) 23] (aq (vz 2) (aR (bO 7 58 aH (L:=(([]:List aM)++v1)) h8) (aq [.v 0 1] (aR (br 5 0 aH aH (bf h10).2 ((fun _=>rfl))) (aq [.v 0 2,.v 0 2] (ag (dm (lo:=0) (k:=2) (cu ⟨(by kernel_rfl),(cw (bO 7 58 aH (L:=(([]:List aM)++v1)) h9) (by kernel_rfl))⟩ (cu ⟨(by kernel_rfl),(cw (bO 7 58 aH (L:=(([]:List aM)++v1)) h9) (by kernel_rfl))⟩ dp))) (aq [.v 0 2] (ag (dm (lo:=0) (k:=2) (cu ⟨(by kernel_rfl),(cw (br 5 1 aH aH (bf h10).2 ((fun _=>rfl))) (by kernel_rfl))⟩ (cu ⟨(by kernel_rfl),(cw (br 5 1 aH aH (bf h10).2 ((fun _=>rfl))) (by kernel_rfl))⟩ dp))) (aq [.v 0 3,.v 0 3] (ag (dm (lo:=0) (k:=3) (cu ⟨(by kernel_rfl),(cw (bO 7 58 aH (L:=(([]:List aM)++v1)) h10) (by kernel_rfl))⟩ (cu ⟨(by kernel_rfl),(cw (bO 7 58 aH (L:=(([]:List aM)++v1)) h10) (by kernel_rfl))⟩ (cu ⟨(by kernel_rfl),(cw (bO 7 58 aH (L:=(([]:List aM)++v1)) h10) (by kernel_rfl))⟩ dp)))) (aq [.v 0 3] (ag (dm (lo:=0) (k:=3) (cu ⟨(by kernel_rfl),(cw (br 5 3 aH aH (bf h10).2 ((fun _=>rfl))) (by kernel_rfl))⟩ (cu ⟨(by kernel_rfl),(cw (br 5 3 aH aH (bf h10).2 ((fun _=>rfl))) (by kernel_rfl))⟩ (cu ⟨(by kernel_rfl),(cw (br 5 3 aH aH (bf h10).2 ((fun _=>rfl))) (by kernel_rfl))⟩ dp)))) (aq [.v 0 2,.v 0 1] (ag (bU 0) (aq [.v 1 2,.v 1 1] (ag (bU 1) (aq [.v 2 2,.v 2 1] (ag (bU 2) bz)))))))))))))))))) ?_
   obtain⟨v4,h11,h⟩:=bF h;obtain⟨v5,h12,h⟩:=bF h;obtain⟨v6,h13,h⟩:=bF h;refine bm (ks':=[jK 2005,.b 0,jK 63]) 0 ⟨[(3,.ptr 3 0),(5,.ref 7),(6,iI v3)],[(3,dP ({ v2 with Spec:=({ v2.Spec with Depth:=v4,Kind:=v5,Rows:=v6 }:aM) }:eo))],[(7,⟨37,58,lm aH (([]:List aM)++v1)⟩)],[3,7]⟩ ?_ (by subst h13;subst h12;subst h11;kernel_rfl);refine ai 4 ?_;obtain⟨h14,h⟩:=ax h;exact au (ca 7 58 aH h14) (au (cJ 7 37 58 0 aH aH ({ v2.Spec with Depth:=v4,Kind:=v5,Rows:=v6 }:aM) (bf h14).2 ((fun _=>rfl))) (ab (ac 0 (I8 hK h))))
  ·refine ae 56 h7 (bd 7 3 ?_);obtain⟨h15,h⟩|⟨h15,h⟩:=am h
   ·refine ae 84 h15 (bd 2 1 (ai 2 ?_));obtain⟨h16,h⟩:=ax h;refine au (ca 7 58 aH h16) (aO 4 1 (au (br 9 2 aH aH (bf h16).2 ((fun _=>rfl))) ?_));obtain⟨h17,h⟩:=ax h;refine au (WF h17) ?_;obtain⟨h18,h⟩:=ax h;exact au (ca 7 58 aH h18) (aO 8 1 (au (cJ 7 37 58 2 aH aH ({ (gD (([]:List aM)++v1) v3)with Text:=(((gD (([]:List aM)++v1) v3).Text)++(⟨#[120]⟩:ByteArray)) }:aM) (bf h18).2 ((fun _=>rfl))) (ab (ac 0 (I8 hK h)))))
   ·refine ae 84 h15 (bd 7 3 ?_);obtain⟨h19,h⟩|⟨h19,h⟩:=am h
    ·refine ae 94 h19 (av 4 5 2 (bA [5,6] [] [7] ?_));obtain⟨h20,h⟩:=ax h;obtain⟨h21,h⟩:=ax h;refine C0 7 0 [(96,.ref 7),(97,iI v3),(98,.sref 7 58 ((0:Int).toNat) (v3.toNat-(0:Int).toNat)),(99,.ref 7),(100,iI v3),(101,iI (aa (v3+1))),(102,.sref 7 58 (((aa (v3+1))).toNat) ((((([]:List aM)++v1).length:Int)).toNat-((aa (v3+1))).toNat))] [] [] [] (aq (vz 2) (aR (HM aH (([]:List aM)++v1) (0:Int) v3 22 (.tmp 96) none (some (.tmp 97)) 98 (id:=7) (e:=37) (sz:=58) (et:=37) (by kernel_rfl) (by kernel_rfl) (by kernel_rfl) (by kernel_rfl) (by kernel_rfl) (by kernel_rfl) (by kernel_rfl) (fun k hk=>by subst hk;kernel_rfl) h20) (aq (vz 3) (aR (HM aH (([]:List aM)++v1) (aa (v3+1)) ((([]:List aM)++v1).length:Int) 22 (.tmp 99) (some (.tmp 101)) none 102 (id:=7) (e:=37) (sz:=58) (et:=37) (by kernel_rfl) (by kernel_rfl) (by kernel_rfl) (by kernel_rfl) (by kernel_rfl) (by kernel_rfl) (by kernel_rfl) (fun k hk=>by subst hk;kernel_rfl) h21) (lR))))) ?_
     obtain⟨h22,h⟩:=ax h;refine Rz 103 7 37 58 (v3.toNat-(0:Int).toNat) (((aa (v3+1))).toNat) ((((([]:List aM)++v1).length:Int)).toNat-((aa (v3+1))).toNat) aH (L:=(([]:List aM)++v1)) (x:=(.tmp 98)) (y:=(.tmp 102)) (T:=22) (bytes:=480) h22 (ab (aJ 3 ?_));cases h;exact dk
    ·refine ae 94 h19 (av 6 7 2 (ai 2 ?_));obtain⟨h23,h⟩:=ax h;refine au (ca 7 58 aH h23) (aO 4 1 (au (br 5 0 aH aH (bf h23).2 ((fun _=>rfl))) (ab ?_)));obtain⟨v7,h24,h⟩:=bF h;refine bm (ks':=[jK 64254,jK 64255,.b 0,jK 63]) 1 ⟨[(3,.ptr 3 0),(5,.ref 7),(6,iI v3)],[(3,dP ({ v2 with Spec:=({ v2.Spec with Depth:=v7 }:aM) }:eo))],[(7,⟨37,58,lm aH (([]:List aM)++v1)⟩)],[3,7]⟩ ?_ (by subst h24;kernel_rfl);refine eX 7 ?_;obtain⟨h25,h⟩:=ax h;obtain⟨h26,h⟩:=ax h;obtain⟨h27,h⟩:=ax h;obtain⟨h28,h⟩:=ax h;obtain⟨h29,h⟩:=ax h;refine bw 4 (nu 43 [.ref 43,.sl (lm aH (([]:List aM)++v1)),iI v3,.sl (lm aH (List.drop ((0:Int)).toNat (List.take v3.toNat (([]:List aM)++v1))))]++nu 48 [.ptr 3 2,.agg (aH ({ v2.Spec with Depth:=v7 }:aM)),.sl (lm aH [({ v2.Spec with Depth:=v7 }:aM)])]++nu 52 [.sl (lm aH (([]:List aM)++v1)),iI v3,.sl (lm aH (List.drop v3.toNat (List.take (((([]:List aM)++v1).length:Int)).toNat (([]:List aM)++v1))))]) [] [(43,⟨37,58,[]⟩)] [eb 47 43 ⟨37,58,lm aH (([]:List aM)++(List.drop ((0:Int)).toNat (List.take v3.toNat (([]:List aM)++v1))))⟩,eb 51 43 ⟨37,58,lm aH ((([]:List aM)++(List.drop ((0:Int)).toNat (List.take v3.toNat (([]:List aM)++v1))))++[({ v2.Spec with Depth:=v7 }:aM)])⟩,eb 55 43 ⟨37,58,lm aH (((([]:List aM)++(List.drop ((0:Int)).toNat (List.take v3.toNat (([]:List aM)++v1))))++[({ v2.Spec with Depth:=v7 }:aM)])++(List.drop v3.toNat (List.take (((([]:List aM)++v1).length:Int)).toNat (([]:List aM)++v1))))⟩,bS Tryz.prog 105 Tryz.f14 (pn 64254) 13] (ag (X8 0 1 22 43 37 58) (aq [.v 0 4,.v 0 4] (aR (fF aH (([]:List aM)++v1) (0:Int) v3 22 (.tmp 44) none (some (.tmp 45)) 46 (e:=37) (sz:=58) (by kernel_rfl) (by kernel_rfl) (by kernel_rfl) (by kernel_rfl) (by kernel_rfl) (by kernel_rfl) (cR) (fun k hk=>by subst hk;kernel_rfl) h25) (ag (cy (m:=0) (cc 47 43 37 58 aH (rfl) (cR) h26)) (aq [.v 0 4,.v 0 4,.v 0 2] (ag (cy (m:=1) (cc 51 43 37 58 aH (rfl) (cR) h27)) (aq [.v 0 4,.v 0 4] (ag (dm (lo:=0) (k:=3) (cu ⟨(by kernel_rfl),(cw (fF aH (([]:List aM)++v1) v3 ((([]:List aM)++v1).length:Int) 22 (.tmp 52) (some (.tmp 53)) none 54 (e:=37) (sz:=58) (by kernel_rfl) (by kernel_rfl) (by kernel_rfl) (by kernel_rfl) (by kernel_rfl) (by kernel_rfl) (cR) (fun k hk=>by subst hk;kernel_rfl) h28) (by kernel_rfl))⟩ (cu ⟨(by kernel_rfl),(cw (fF aH (([]:List aM)++v1) v3 ((([]:List aM)++v1).length:Int) 22 (.tmp 52) (some (.tmp 53)) none 54 (e:=37) (sz:=58) (by kernel_rfl) (by kernel_rfl) (by kernel_rfl) (by kernel_rfl) (by kernel_rfl) (by kernel_rfl) (cR) (fun k hk=>by subst hk;kernel_rfl) h28) (by kernel_rfl))⟩ (cu ⟨(by kernel_rfl),(cw (fF aH (([]:List aM)++v1) v3 ((([]:List aM)++v1).length:Int) 22 (.tmp 52) (some (.tmp 53)) none 54 (e:=37) (sz:=58) (by kernel_rfl) (by kernel_rfl) (by kernel_rfl) (by kernel_rfl) (by kernel_rfl) (by kernel_rfl) (cR) (fun k hk=>by subst hk;kernel_rfl) h28) (by kernel_rfl))⟩ dp)))) (ag (cy (m:=2) (cc 55 43 37 58 aH (rfl) (cR) h29)) (ag (bU 3) bz)))))))))) (aJ 3 (bA [4] [] [43] (lx 43 7 ?_)))
     cases h;exact dk
end
noncomputable section
variable[GS](M:Nat→Prop)(w0:aB)(r:Bool)(v1 v2:ah)(v3:Bool)(v6:Int)(m1:Nat)(L1:Int→Option Bool)
abbrev Ac:Cx:=⟨Tryz.prog,74,M,w0⟩
abbrev AM:=bodyPost Tryz.prog Tryz.f24 (bC M w0 (fun v _=>v=.bool r))
abbrev JP(ks:List ao)(s:AS):=VE (Ac M w0) (AM M w0 r) ks .normal s
abbrev tz(n:Nat):ao:=.c (cat Tryz.f24 (pn n))
abbrev Fo:List ao:=[.b 0,tz 15]
abbrev Sd:List ao:=kl (Ac M w0) (AM M w0 r) Fo (cat Tryz.f24 (pn 116)) m1::Fo
def GE:AS:=⟨[(2,.ptr 2 0),(3,.ptr 3 0),(5,iI v6)],[(2,ap v1),(3,ap v2)],[],[2,3]⟩
def R1:AS:=⟨[(2,.ptr 2 0),(3,.ptr 3 0),(54,.bool v3)],[(2,ap v1),(3,ap v2)],[],[2,3]⟩
abbrev MF:Prop:=∀{v6:Int},L1 v6=some r→LP (Ac M w0) (AM M w0 r) Fo (cat Tryz.f24 (pn 116)) m1 (GE v1 v2 v6)
variable{M w0 r v1 v2 v3 v6 m1 L1}{K:Kn}{n:Nat}
theorem P1(hK:ak K)(hL1:MF M w0 r v1 v2 m1 L1)(h:qq K n v1 v2 L1 v6=some r):JP M w0 r (tz 116::Sd M w0 r m1) (GE v1 v2 v6):=by
 unfold qq at h;refine bN 4 5 3 2 (ai 3 (au (bj aF v1.Kids) (ab ?_)));obtain⟨h14,h⟩|⟨h14,h⟩:=am h
 ·refine ae 59 h14 (cr 8 9 1 3 5 (bA [2,3,5] [2,3] [] ?_));obtain⟨h15,h⟩:=ax h;obtain⟨h16,h⟩:=ax h;obtain⟨v7,h17,h⟩:=bind_some h;refine bw 0 (nu 62 [.ptr 2 58,.sl (lm aF v1.Kids),iI v6,.cptr (ap (gD v1.Kids v6)),.agg (ap (gD v1.Kids v6)),.ptr 3 58,.sl (lm aF v2.Kids),iI v6,.cptr (ap (gD v2.Kids v6)),.agg (ap (gD v2.Kids v6)),.bool v7,.bool (!v7)]) [] [] [] (aq (vz 3) (aR (bu aF ap h15 (dE) (cX)) (aq (vz 4) (aR (bu aF ap h16 (dE) (cX)) (aq [.v 0 1] (ag (bL 0 1 72 (hK.mQ h17)) (aq [.v 0 1] bz))))))) ?_;obtain⟨h18,h⟩|⟨h18,h⟩:=am h
  ·refine ae 73 h18 (aJ 9 ?_);cases h;exact bp
  ·exact ae 73 h18 (ac 4 (bc (hL1 h)))
 ·refine ae 59 h14 (aJ 8 ?_);cases h;exact bp
theorem Wh(hK:ak K)(m:Nat):MF M w0 r v1 v2 m (mN K n v1 v2 m):=by
 induction m with
 | zero=>intro v6 h;cases h
 | succ m ih=>intro v6 h;have h:qq K n v1 v2 (mN K n v1 v2 m) v6=some r:=h;exact aZ (P1 hK ih h)
theorem kZ(hK:ak K)(h:f9 K n v1 v2 v3=some r):JP M w0 r [tz 13,tz 7] (R1 v1 v2 v3):=by
 unfold f9 at h;obtain⟨h7,h⟩|⟨h7,h⟩:=am h
 ·refine ae 54 h7 (aJ 5 ?_);cases h;exact bp
 ·exact ae 54 h7 (ac 6 (bK (p:=pn 58) n (Wh hK n h)))
theorem lM(hK:ak K)(h:ke K n v1 v2=some r):aW Tryz.prog 24 [.agg (ap v1),.agg (ap v2)] (fun v _=>v=.bool r):=by
 refine bB (cat Tryz.f24 (pn 1)) Tryz.func24 Tryz.ntmps24 fun M w0=>(ba ⟨[(0,.agg (ap v1)),(1,.agg (ap v2))],[],[],[]⟩ ?_);unfold ke at h;refine bN 12 13 7 4 (ai 6 ?_);obtain⟨h1,h⟩|⟨h1,h⟩:=am h
 ·exact aC 11 h1 (ab (ac 0 (kZ hK h)))
 ·refine aC 11 h1 (aO 13 7 ?_);obtain⟨h2,h⟩|⟨h2,h⟩:=am h
  ·exact aC 18 h2 (ab (ac 0 (kZ hK h)))
  ·refine aC 18 h2 (aO 20 7 ?_);obtain⟨h3,h⟩|⟨h3,h⟩:=am h
   ·exact aC 25 h3 (ab (ac 0 (kZ hK h)))
   ·refine aC 25 h3 (aO 27 7 ?_);obtain⟨h4,h⟩|⟨h4,h⟩:=am h
    ·exact aC 32 h4 (ab (ac 0 (kZ hK h)))
    ·refine aC 32 h4 (aO 34 7 ?_);obtain⟨h5,h⟩|⟨h5,h⟩:=am h
     ·exact aC 39 h5 (ab (ac 0 (kZ hK h)))
     ·refine aC 39 h5 (aO 41 7 ?_);obtain⟨h6,h⟩|⟨h6,h⟩:=am h
      ·exact aC 46 h6 (ab (ac 0 (kZ hK h)))
      ·exact aC 46 h6 (aO 43 2 (au (bj aF v1.Kids) (aO 46 2 (au (bj aF v2.Kids) (ab (ac 0 (kZ hK h)))))))
end
noncomputable section
variable[GS](M:Nat→Prop)(w0:aB)(r:Bool)(v1 v2:ah)(v6:Int)(m1:Nat)(L1:Int→Option Bool)
abbrev B9:Cx:=⟨Tryz.prog,23,M,w0⟩
abbrev Bj:=bodyPost Tryz.prog Tryz.f23 (bC M w0 (fun v _=>v=.bool r))
abbrev VJ(ks:List ao)(s:AS):=VE (B9 M w0) (Bj M w0 r) ks .normal s
abbrev JY(n:Nat):ao:=.c (cat Tryz.f23 (pn n))
abbrev DM:List ao:=[.b 0,JY 15]
abbrev Zs:List ao:=kl (B9 M w0) (Bj M w0 r) DM (cat Tryz.f23 (pn 116)) m1::DM
def HX:AS:=⟨[(2,.ptr 2 0),(3,.ptr 3 0),(5,iI v6)],[(2,ap v1),(3,ap v2)],[],[2,3]⟩
abbrev HH:Prop:=∀{v6:Int},L1 v6=some r→LP (B9 M w0) (Bj M w0 r) DM (cat Tryz.f23 (pn 116)) m1 (HX v1 v2 v6)
variable{M w0 r v1 v2 v6 m1 L1}{K:Kn}{n:Nat}
theorem Sy(hK:ak K)(hL1:HH M w0 r v1 v2 m1 L1)(h:ob K n v1 v2 L1 v6=some r):VJ M w0 r (JY 116::Zs M w0 r m1) (HX v1 v2 v6):=by
 unfold ob at h;refine bN 4 5 3 2 (ai 3 (au (bj aF v1.Kids) (ab ?_)));obtain⟨h8,h⟩|⟨h8,h⟩:=am h
 ·refine ae 13 h8 (cr 8 9 1 3 5 (bA [2,3,5] [2,3] [] ?_));obtain⟨h9,h⟩:=ax h;obtain⟨v7,h10,h⟩:=bind_some h;refine bw 0 (nu 16 [.ptr 2 58,.sl (lm aF v1.Kids),iI v6,.cptr (ap (gD v1.Kids v6)),.agg (ap (gD v1.Kids v6)),.agg (ap v2),.bool v7]) [] [] [] (aq (vz 3) (aR (bu aF ap h9 (dE) (cX)) (aq (vz 2) (ag (bL 0 1 22 (hK.nj h10)) bz)))) ?_;obtain⟨h11,h⟩|⟨h11,h⟩:=am h
  ·refine ae 22 h11 (aJ 9 ?_);cases h;exact bp
  ·exact ae 22 h11 (ac 4 (bc (hL1 h)))
 ·refine ae 13 h8 (aJ 8 ?_);cases h;exact bp
theorem QM(hK:ak K)(m:Nat):HH M w0 r v1 v2 m (nE K n v1 v2 m):=by
 induction m with
 | zero=>intro v6 h;cases h
 | succ m ih=>intro v6 h;have h:ob K n v1 v2 (nE K n v1 v2 m) v6=some r:=h;exact aZ (Sy hK ih h)
theorem u9(hK:ak K)(h:ls K n v1 v2=some r):aW Tryz.prog 23 [.agg (ap v1),.agg (ap v2)] (fun v _=>v=.bool r):=by
 refine bB (cat Tryz.f23 (pn 1)) Tryz.func23 Tryz.ntmps23 fun M w0=>(ba ⟨[(0,.agg (ap v1)),(1,.agg (ap v2))],[],[],[]⟩ ?_);unfold ls at h;refine bN 12 13 7 4 (ai 2 ?_);obtain⟨v3,h1,h⟩:=bind_some h;refine aP (lM hK h1) (ab ?_);obtain⟨h2,h⟩|⟨h2,h⟩:=am h
 ·refine ae 8 h2 (aJ 5 ?_);cases h;exact bp
 ·exact ae 8 h2 (ac 6 (bK (p:=pn 58) n (QM hK n h)))
end
noncomputable section
variable[GS](M:Nat→Prop)(w0:aB)(r:Int)(v1:List Int)(v2 v4:Int)(m1:Nat)(L1:Int→Option Int)
abbrev Df:Cx:=⟨Tryz.prog,19,M,w0⟩
abbrev BO:=bodyPost Tryz.prog Tryz.f118 (bC M w0 (fun v _=>v=iI r))
abbrev RJ(ks:List ao)(s:AS):=VE (Df M w0) (BO M w0 r) ks .normal s
abbrev Gl(n:Nat):ao:=.c (cat Tryz.f118 (pn n))
abbrev CA:List ao:=[.b 0,Gl 7]
abbrev Vp:List ao:=kl (Df M w0) (BO M w0 r) CA (cat Tryz.f118 (pn 52)) m1::CA
def Je:AS:=⟨[(0,.sl (lm (af .i64) v1)),(1,iI v2),(7,iI (v1.length:Int)),(8,iI v4)],[],[],[]⟩
abbrev Im:Prop:=∀{v4:Int},L1 v4=some r→LP (Df M w0) (BO M w0 r) CA (cat Tryz.f118 (pn 52)) m1 (Je v1 v2 v4)
variable{M w0 r v1 v2 v4 m1 L1}{K:Kn}{n:Nat}
theorem PA(hK:ak K)(hL1:Im M w0 r v1 v2 m1 L1)(h:qz K n v1 v2 L1 v4=some r):RJ M w0 r (Gl 52::Vp M w0 r m1) (Je v1 v2 v4):=by
 unfold qz at h;refine av 6 7 3 ?_;obtain⟨h5,h⟩|⟨h5,h⟩:=am h
 ·refine ae 9 h5 (cr 18 19 1 3 7 (ai 3 ?_));obtain⟨h6,h⟩:=ax h;refine au (bu (af .i64) (af .i64) h6 ((fun _=>rfl)) ((fun _=>rfl))) (ab ?_);obtain⟨h7,h⟩|⟨h7,h⟩:=am h
  ·refine ae 16 h7 (aJ 9 ?_);cases h;exact bp
  ·exact ae 16 h7 (ac 4 (bc (hL1 h)))
 ·refine ae 9 h5 (aJ 8 ?_);cases h;exact bp
theorem TV(hK:ak K)(m:Nat):Im M w0 r v1 v2 m (ld K n v1 v2 m):=by
 induction m with
 | zero=>intro v4 h;cases h
 | succ m ih=>intro v4 h;have h:qz K n v1 v2 (ld K n v1 v2 m) v4=some r:=h;exact aZ (PA hK ih h)
theorem Qm(hK:ak K)(h:uu K n v1 v2=some r):aW Tryz.prog 118 [.sl (lm (af .i64) v1),iI v2] (fun v _=>v=iI r):=by
 refine bB (cat Tryz.f118 (pn 1)) Tryz.func118 Tryz.ntmps118 fun M w0=>(ba ⟨[(0,.sl (lm (af .i64) v1)),(1,iI v2)],[],[],[]⟩ ?_);unfold uu at h;exact bN 12 13 7 4 (ai 1 (au (bj (af .i64) v1) (ab (ac 1 (bK (p:=pn 26) n (TV hK n h))))))
end
noncomputable section
variable[GS](M:Nat→Prop)(w0:aB)(r:Bool)(v1:List Int)(v2:Int)  
variable{M w0 r v1 v2}{K:Kn}{n:Nat}
theorem Yz(hK:ak K)(h:nZ K n v1 v2=some r):aW Tryz.prog 62 [.sl (lm (af .i64) v1),iI v2] (fun v _=>v=.bool r):=by
 refine bB (cat Tryz.f62 (pn 1)) Tryz.func62 Tryz.ntmps62 fun M w0=>(ba ⟨[(0,.sl (lm (af .i64) v1)),(1,iI v2)],[],[],[]⟩ ?_);unfold nZ at h;refine av 6 7 3 (ai 2 ?_);obtain⟨v3,h1,h⟩:=bind_some h;refine aP (Qm hK h1) (ab (aJ 1 ?_));cases h;exact bp
end
noncomputable section
variable[GS](M:Nat→Prop)(w0:aB)(r:ah×(List Int))(v1 v2:ah)(v3:List Int)(v6:Bool)(v7:List Int)(v10:Int)(v11:ah)(v12:List Int)(m1:Nat)(L1:Int→ah→(List Int)→Option (ah×(List Int)))
abbrev Be:Cx:=⟨Tryz.prog,39,M,w0⟩
abbrev Ck:=bodyPost Tryz.prog Tryz.f61 (bC M w0 (fun v s=>v=.tup []∧bW s.o [(1,ap r.1),(2,[.fno 61 [.ptr 3 0,.ptr 1 0,.ptr 2 0]]),(3,[.ref 9])]∧look 9 s.r=some ⟨3,1,lm (af .i64) r.2⟩))
abbrev Bo(ks:List ao)(s:AS):=VE (Be M w0) (Ck M w0 r) ks .normal s
abbrev uo(n:Nat):ao:=.c (cat Tryz.f61 (pn n))
abbrev Bi:List ao:=[.b 0]
abbrev Wb:List ao:=kl (Be M w0) (Ck M w0 r) Bi (cat Tryz.f61 (pn 60)) m1::Bi
def Ip:AS:=⟨[(3,.ptr 2 0),(29,.sl (lm aF v1.Kids)),(30,iI (v1.Kids.length:Int)),(31,iI v10)],[(1,ap v11),(2,[.fno 61 [.ptr 3 0,.ptr 1 0,.ptr 2 0]]),(3,[.ref 9])],[(9,⟨3,1,lm (af .i64) v12⟩)],[1,2,3,9,1000001,1,1000002,2,1000003,3]⟩
def Z4:AS:=⟨[(3,.ptr 2 0),(4,.ptr 4 0)],[(1,ap v2),(2,[.fno 61 [.ptr 3 0,.ptr 1 0,.ptr 2 0]]),(3,[.ref 9]),(4,ap v1)],[(9,⟨3,1,lm (af .i64) v7⟩)],[1,2,3,4,9,1000001,1,1000002,2,1000003,3]⟩
def Yh:AS:=⟨[(1,.ptr 3 0),(3,.ptr 2 0),(4,.ptr 4 0),(22,.bool v6)],[(1,ap v2),(2,[.fno 61 [.ptr 3 0,.ptr 1 0,.ptr 2 0]]),(3,[.ref 9]),(4,ap v1)],[(9,⟨3,1,lm (af .i64) v3⟩)],[1,2,3,4,9,1000001,1,1000002,2,1000003,3]⟩
abbrev Ko:Prop:=∀{v10:Int} {v11:ah} {v12:(List Int)},L1 v10 v11 v12=some r→LP (Be M w0) (Ck M w0 r) Bi (cat Tryz.f61 (pn 60)) m1 (Ip v1 v10 v11 v12)
variable{M w0 r v1 v2 v3 v6 v7 v10 v11 v12 m1 L1}{K:Kn}{n:Nat}
theorem Px(hK:ak K)(hL1:Ko M w0 r v1 m1 L1)(h:nS K n v1 L1 v10 v11 v12=some r):Bo M w0 r (uo 60::Wb M w0 r m1) (Ip v1 v10 v11 v12):=by
 unfold nS at h;refine av 6 7 3 ?_;obtain⟨h11,h⟩|⟨h11,h⟩:=am h
 ·refine ae 32 h11 (cr 8 9 1 3 5 (ai 0 ?_));obtain⟨h12,h⟩:=ax h;refine au (bu aF ap h12 (dE) (cX)) (ab (ai 2 ?_));obtain⟨v13,h13,h⟩:=bind_some h;exact fp 9 9 [(1,1),(2,2),(3,3)] (hK.l8 h13) (ab (ac 2 (bc (hL1 h))))
 ·refine ae 32 h11 (bM (ks':=[]) 5 (im ?_));cases h;exact j4
theorem aaC(hK:ak K)(m:Nat):Ko M w0 r v1 m (l5 K n v1 m):=by
 induction m with
 | zero=>intro v10 v11 v12 h;cases h
 | succ m ih=>intro v10 v11 v12 h;have h:nS K n v1 (l5 K n v1 m) v10 v11 v12=some r:=h;exact aZ (Px hK ih h)
theorem IT(hK:ak K)(h:mh K n v1 v2 v7=some r):Bo M w0 r [uo 7] (Z4 v1 v2 v7):=by
 unfold mh at h;exact av 2 3 1 (ai 2 (au (bj aF v1.Kids) (ab (ac 1 (bK (p:=pn 30) n (aaC hK n h))))))
theorem E1(hK:ak K)(h:mB K n v1 v2 v3 v6=some r):Bo M w0 r [uo 13,uo 7] (Yh v1 v2 v3 v6):=by
 unfold mB at h;obtain⟨h5,h⟩|⟨h5,h⟩:=am h
 ·refine ae 22 h5 (bd 2 1 (ai 4 ?_));obtain⟨h6,h⟩:=ax h;exact au (cc 27 9 3 1 (af .i64) (rfl) ((fun _=>rfl)) h6) (ab (ac 0 (IT hK h)))
 ·exact ae 22 h5 (ac 2 (IT hK h))
theorem Nq(hK:ak K)(h:m7 K n v1 v2 v3=some r):ex Tryz.prog 61 [.agg (ap v1),.ptr 3 0,.ptr 1 0,.ptr 2 0] [(1,ap v2),(2,[.fno 61 [.ptr 3 0,.ptr 1 0,.ptr 2 0]]),(3,[.ref 9])] 9 ⟨3,1,lm (af .i64) v3⟩ [9,1,2,3,1000001,1000002,1000003] (fun v s=>v=.tup []∧bW s.o [(1,ap r.1),(2,[.fno 61 [.ptr 3 0,.ptr 1 0,.ptr 2 0]]),(3,[.ref 9])]∧look 9 s.r=some ⟨3,1,lm (af .i64) r.2⟩):=by
 refine gA (c:=cat Tryz.f61 (pn 1)) Tryz.func61 (by kernel_rfl) _ Tryz.ntmps61 (of_decide_eq_true (by kernel_rfl)) fun M w0=>(ba ⟨[(0,.agg (ap v1)),(1,.ptr 3 0),(2,.ptr 1 0),(3,.ptr 2 0)],[(1,ap v2),(2,[.fno 61 [.ptr 3 0,.ptr 1 0,.ptr 2 0]]),(3,[.ref 9])],[(9,⟨3,1,lm (af .i64) v3⟩)],[9,1,2,3,1000001,1000002,1000003]⟩ ?_);unfold m7 at h;refine bN 12 13 7 4 (ai 4 ?_);obtain⟨h1,h⟩|⟨h1,h⟩:=am h
 ·refine aC 10 h1 (aO 7 3 ?_);obtain⟨v4,h2,h⟩:=bind_some h;refine Ig (Yz hK h2) (aO 11 3 ?_);obtain⟨h3,h⟩|⟨h3,h⟩:=am h
  ·refine aC 17 h3 (aO 13 2 ?_);obtain⟨v5,h4,h⟩:=bind_some h;exact aP (m9 hK h4) (ab (ac 0 (E1 hK h)))
  ·exact aC 17 h3 (ab (ac 0 (E1 hK h)))
 ·exact aC 10 h1 (ab (ac 0 (E1 hK h)))
end
noncomputable section
variable[GS](M:Nat→Prop)(w0:aB)(r:List Int)(v1 v2:ah)  
variable{M w0 r v1 v2}{K:Kn}{n:Nat}
theorem Gj(hK:ak K)(h:nt K n v1 v2=some r):aW Tryz.prog 25 [.agg (ap v1),.agg (ap v2)] (fun v s=>v=.ref 400005∧look 400005 s.r=some ⟨3,1,lm (af .i64) r⟩):=by
 refine bB (cat Tryz.f25 (pn 1)) Tryz.func25 Tryz.ntmps25 fun M w0=>(ba ⟨[(0,.agg (ap v1)),(1,.agg (ap v2))],[],[],[]⟩ ?_);unfold nt at h;refine av 30 31 7 (ai 0 (jY 61 #[(.tmp 5),(.tmp 2),(.tmp 6)] [.ptr 5 0,.ptr 2 0,.ptr 6 0] (ab (av 2 3 1 (ai 2 (yM 400005 5 0 3 1 ?_))))));obtain⟨v3,h1,h⟩:=bind_some h;refine fp 400005 9 [(2,1),(6,2),(5,3)] (Nq hK h1) (ab (aJ 3 ?_));cases h;exact dk
end
noncomputable section
variable[GS](M:Nat→Prop)(w0:aB)(r:List Int)(v1 v2:ah)(v3:List Int)(v7:Bool)(v8:Int)(v10:Bool)(v11:List Int)(v14:Int)(v15:List Int)(m1 m2:Nat)(L1:Bool→Int→Option (List Int))(L2:Int→(List Int)→Option (List Int))
abbrev nN:Cx:=⟨Tryz.prog,52,M,w0⟩
abbrev pS:=bodyPost Tryz.prog Tryz.f26 (bC M w0 (fun v s=>v=.ref 9∧bW s.o []∧look 9 s.r=some ⟨3,1,lm (af .i64) r⟩))
abbrev xl(ks:List ao)(s:AS):=VE (nN M w0) (pS M w0 r) ks .normal s
abbrev gn(n:Nat):ao:=.c (cat Tryz.f26 (pn n))
abbrev A9:List ao:=[.b 2,gn 15]
abbrev P2:List ao:=kl (nN M w0) (pS M w0 r) A9 (cat Tryz.f26 (pn 116)) m2::A9
abbrev zW:List ao:=[.b 0,gn 107,gn 7]
abbrev Ar:List ao:=kl (nN M w0) (pS M w0 r) zW (cat Tryz.f26 (pn 852)) m1::zW
def XC:AS:=⟨[(2,.ref 9),(3,.ptr 3 0),(4,.ptr 4 0),(7,.bool v10),(8,iI v8)],[(3,ap v1),(4,ap v2)],[(9,⟨3,1,lm (af .i64) v3⟩)],[3,4,9]⟩
def J8:AS:=⟨[(2,.ref 9),(3,.ptr 3 0),(4,.ptr 4 0),(9,iI v14)],[(3,ap v1),(4,ap v2)],[(9,⟨3,1,lm (af .i64) v15⟩)],[3,4,9]⟩
def Ul:AS:=⟨[(2,.ref 9),(3,.ptr 3 0),(4,.ptr 4 0)],[(3,ap v1),(4,ap v2)],[(9,⟨3,1,lm (af .i64) v11⟩)],[3,4,9]⟩
def MO:AS:=⟨[(2,.ref 9),(3,.ptr 3 0),(4,.ptr 4 0),(7,.bool v7),(8,iI v8)],[(3,ap v1),(4,ap v2)],[(9,⟨3,1,lm (af .i64) v3⟩)],[3,4,9]⟩
abbrev Es:Prop:=∀{v7:Bool} {v8:Int},L1 v7 v8=some r→LP (nN M w0) (pS M w0 r) zW (cat Tryz.f26 (pn 852)) m1 (MO v1 v2 v3 v7 v8)
abbrev Jp:Prop:=∀{v14:Int} {v15:(List Int)},L2 v14 v15=some r→LP (nN M w0) (pS M w0 r) A9 (cat Tryz.f26 (pn 116)) m2 (J8 v1 v2 v14 v15)
variable{M w0 r v1 v2 v3 v7 v8 v10 v11 v14 v15 m1 m2 L1 L2}{K:Kn}{n:Nat}
theorem IJ(hK:ak K)(hL1:Es M w0 r v1 v2 v3 m1 L1)(h:oo K n v1 v2 v3 v8 L1 v10=some r):xl M w0 r (.b 1::gn 3411::Ar M w0 r m1) (XC v1 v2 v3 v8 v10):=by
 unfold oo at h;exact ac 2 (bc (hL1 h))
theorem QV(hK:ak K)(hL2:Jp M w0 r v1 v2 m2 L2)(h:qF K n v1 v2 L2 v14 v15=some r):xl M w0 r (gn 116::P2 M w0 r m2) (J8 v1 v2 v14 v15):=by
 unfold qF at h;refine bN 4 5 3 2 (ai 3 (au (bj aF v2.Kids) (ab ?_)));obtain⟨h17,h⟩|⟨h17,h⟩:=am h
 ·refine ae 40 h17 (lg 4 3 3 4 (bA [2,3,4,9] [3,4] [9] ?_));obtain⟨h18,h⟩:=ax h;refine C0 7 0 [(43,.agg (ap v1)),(44,.ptr 4 58),(45,.sl (lm aF v2.Kids)),(46,iI v14),(47,.cptr (ap (gD v2.Kids v14))),(48,.agg (ap (gD v2.Kids v14))),(49,.ref 9)] [] [] [] (aq (vz 4) (aR (bu aF ap h18 (dE) (cX)) (aq (vz 2) (lR)))) ?_;obtain⟨v16,h19,h⟩:=bind_some h;exact fp 9 9 [] (hK.lP h19) (ab (ac 2 (bc (hL2 h))))
 ·refine ae 40 h17 (aJ 8 ?_);cases h;exact dD
theorem Zp(hK:ak K)(m:Nat):Jp M w0 r v1 v2 m (ml K n v1 v2 m):=by
 induction m with
 | zero=>intro v14 v15 h;cases h
 | succ m ih=>intro v14 v15 h;have h:qF K n v1 v2 (ml K n v1 v2 m) v14 v15=some r:=h;exact aZ (QV hK ih h)
theorem BE(hK:ak K)(h:iX K n v1 v2 v11=some r):xl M w0 r [gn 7] (Ul v1 v2 v11):=by
 unfold iX at h;exact ac 4 (bK (p:=pn 58) n (Zp hK n h))
theorem Vy(hK:ak K)(hL1:Es M w0 r v1 v2 v3 m1 L1)(h:nT K n v1 v2 v3 L1 v7 v8=some r):xl M w0 r (gn 852::Ar M w0 r m1) (MO v1 v2 v3 v7 v8):=by
 unfold nT at h;refine bN 4 5 3 2 (ai 2 (au (bj (af .i64) v3) (ab ?_)));obtain⟨h7,h⟩|⟨h7,h⟩:=am h
 ·refine ae 20 h7 (cr 8 9 1 3 5 (bA [2,3,4,7,8] [3,4] [9] ?_));obtain⟨h8,h⟩:=ax h;refine bw 0 (nu 23 [.ref 9,iI v8,.eptr 9 1 (v8.toNat) 0,iI (gD v3 v8),.ptr 4 1,iI v2.Node,.bool ((gD v3 v8) == v2.Node)]) [] [] [] (aq (vz 2) (aR (bO 9 1 (af .i64) (L:=v3) h8) (aR (br 3 0 (af .i64) (af .i64) (bf h8).2 ((fun _=>rfl))) (aq (vz 3) bz)))) ?_;obtain⟨v9,h9,h⟩:=bF h;refine bm (ks':=gn 13641 :: .b 1::gn 3411::Ar M w0 r m1) 0 ⟨[(2,.ref 9),(3,.ptr 3 0),(4,.ptr 4 0),(7,.bool v7),(8,iI v8),(29,.bool v9)],[(3,ap v1),(4,ap v2)],[(9,⟨3,1,lm (af .i64) v3⟩)],[3,4,9]⟩ ?_ (by subst h9;kernel_rfl);obtain⟨h10,h⟩|⟨h10,h⟩:=am h
  ·exact ae 29 h10 (ac 2 (IJ hK hL1 h))
  ·exact ae 29 h10 (ac 2 (IJ hK hL1 h))
 ·refine ae 20 h7 (bM (ks':=[gn 215,gn 7]) 7 ?_);obtain⟨h11,h⟩|⟨h11,h⟩:=am h
  ·refine ae 30 h11 (bd 2 1 (ai 4 ?_));obtain⟨h12,h⟩:=ax h;exact au (cc 35 9 3 1 (af .i64) (rfl) ((fun _=>rfl)) h12) (ab (ac 0 (BE hK h)))
  ·exact ae 30 h11 (ac 2 (BE hK h))
theorem YC(hK:ak K)(m:Nat):Es M w0 r v1 v2 v3 m (lC K n v1 v2 v3 m):=by
 induction m with
 | zero=>intro v7 v8 h;cases h
 | succ m ih=>intro v7 v8 h;have h:nT K n v1 v2 v3 (lC K n v1 v2 v3 m) v7 v8=some r:=h;exact aZ (Vy hK ih h)
theorem N6(hK:ak K)(h:kV K n v1 v2 v3=some r):ex Tryz.prog 26 [.agg (ap v1),.agg (ap v2),.ref 9] [] 9 ⟨3,1,lm (af .i64) v3⟩ [9] (fun v s=>v=.ref 9∧bW s.o []∧look 9 s.r=some ⟨3,1,lm (af .i64) r⟩):=by
 refine gA (c:=cat Tryz.f26 (pn 1)) Tryz.func26 (by kernel_rfl) _ Tryz.ntmps26 (of_decide_eq_true (by kernel_rfl)) fun M w0=>(ba ⟨[(0,.agg (ap v1)),(1,.agg (ap v2)),(2,.ref 9)],[],[(9,⟨3,1,lm (af .i64) v3⟩)],[9]⟩ ?_);unfold kV at h;refine bN 12 13 7 4 (ai 2 ?_);obtain⟨v4,h1,h⟩:=bind_some h;refine aP (u9 hK h1) (ab ?_);obtain⟨h2,h⟩|⟨h2,h⟩:=am h
 ·exact ae 13 h2 (ac 7 (bK (p:=pn 426) n (YC hK n h)))
 ·exact ae 13 h2 (ac 2 (BE hK h))
end
noncomputable section
variable(M:Nat→Prop)(w0:aB)(r:Bool)(v1:List aM)(v2:eo)(v7 v9:ah)(v10 v11:(List Int))(v13:Bool)(v15:Int)(v23:Bool)(m1:Nat)(L1:Int→Option Bool)
abbrev Fg:Cx:=⟨Tryz.prog,82,M,w0⟩
abbrev q7:=bodyPost Tryz.prog Tryz.f7 (bC M w0 (fun v _=>v=.bool r))
abbrev zX(ks:List ao)(s:AS):=VE (Fg M w0) (q7 M w0 r) ks .normal s
abbrev lF(n:Nat):ao:=.c (cat Tryz.f7 (pn n))
abbrev BC:List ao:=[.b 0,lF 255]
abbrev JM:List ao:=kl (Fg M w0) (q7 M w0 r) BC (cat Tryz.f7 (pn 2036)) m1::BC
def Xe:AS:=⟨[(4,.bool v23)],[],[],[]⟩
def Jj:AS:=⟨[(5,.ptr 5 0),(6,.ptr 6 0),(7,.ref 25),(8,.ref 405028),(42,iI (v10.length:Int)),(43,iI v15)],[(5,ap v7),(6,ap v9)],[(25,⟨3,1,lm (af .i64) v10⟩),(405028,⟨3,1,lm (af .i64) v11⟩)],[5,6,25,405028]⟩
def Zd:AS:=⟨[(5,.ptr 5 0),(6,.ptr 6 0),(7,.ref 25),(8,.ref 405028),(40,.bool v13)],[(5,ap v7),(6,ap v9)],[(25,⟨3,1,lm (af .i64) v10⟩),(405028,⟨3,1,lm (af .i64) v11⟩)],[5,6,25,405028]⟩
abbrev Nh:Prop:=∀{v15:Int},L1 v15=some r→LP (Fg M w0) (q7 M w0 r) BC (cat Tryz.f7 (pn 2036)) m1 (Jj v7 v9 v10 v11 v15)
variable{M w0 r v1 v2 v7 v9 v10 v11 v13 v15 v23 m1 L1}{K:Kn}{n:Nat}
theorem rN(hA:∀ [GS],ak K)(h:lK K n v23=some r):zX M w0 r [lF 511] (Xe v23):=by
 letI:GS:=⟨0⟩;have hK:=@hA ⟨0⟩
 unfold lK at h;refine aJ 1 ?_;cases h;exact bp
theorem OW(hA:∀ [GS],ak K)(hL1:Nh M w0 r v7 v9 v10 v11 m1 L1)(h:pA K n v7 v9 v10 v11 L1 v15=some r):zX M w0 r (lF 2036::JM M w0 r m1) (Jj v7 v9 v10 v11 v15):=by
 letI:GS:=⟨0⟩;have hK:=@hA ⟨0⟩
 unfold pA at h;refine av 6 7 3 ?_;obtain⟨h20,h⟩|⟨h20,h⟩:=am h
 ·refine ae 44 h20 (cr 18 19 1 3 7 (bA [5,6,7,8,9,42,43] [5,6] [25,405028] ?_));obtain⟨h21,h⟩:=ax h;obtain⟨h22,h⟩:=ax h;refine bw 0 (nu 46 [.ref 25,iI v15,.eptr 25 1 (v15.toNat) 0,iI (gD v10 v15),.ref 405028,iI v15,.eptr 405028 1 (v15.toNat) 0,iI (gD v11 v15),.bool ((gD v10 v15) != (gD v11 v15))]) [] [] [] (aq (vz 2) (aR (bO 25 1 (af .i64) (L:=v10) h21) (aR (br 3 0 (af .i64) (af .i64) (bf h21).2 ((fun _=>rfl))) (aq (vz 2) (aR (bO 405028 1 (af .i64) (L:=v11) h22) (aR (br 3 0 (af .i64) (af .i64) (bf h22).2 ((fun _=>rfl))) (aq [.v 0 1] bz))))))) ?_;obtain⟨v16,h23,h⟩:=bF h;refine bm (ks':=lF 130355 :: .b 1::lF 16295::JM M w0 r m1) 0 ⟨[(5,.ptr 5 0),(6,.ptr 6 0),(7,.ref 25),(8,.ref 405028),(42,iI (v10.length:Int)),(43,iI v15),(54,.bool v16)],[(5,ap v7),(6,ap v9)],[(25,⟨3,1,lm (af .i64) v10⟩),(405028,⟨3,1,lm (af .i64) v11⟩)],[5,6,25,405028]⟩ ?_ (by subst h23;kernel_rfl);obtain⟨h24,h⟩|⟨h24,h⟩:=am h
  ·refine ae 54 h24 (aJ 9 ?_);cases h;exact bp
  ·exact ae 54 h24 (ac 4 (bc (hL1 h)))
 ·refine ae 44 h20 (eI 2 3 6 (bA [5,6] [5,6] [] ?_));obtain⟨v17,h25,h⟩:=bind_some h;obtain⟨v18,h26,h⟩:=bind_some h;obtain⟨h27,h⟩|⟨h27,h⟩:=am h
  ·obtain⟨v19,h28,h⟩:=bind_some h;obtain⟨h29,h⟩|⟨h29,h⟩:=am h
   ·obtain⟨v20,h30,h⟩:=bind_some h;obtain⟨v21,h31,h⟩:=bind_some h;obtain⟨h32,h⟩|⟨h32,h⟩:=am h
    ·obtain⟨v22,h33,h⟩:=bind_some h;exact bw 1 (nu 56 [.agg (ap v7),.agg (ap v9),.bool v17,.agg (ap v7),.agg (ap v9),.bool v18,.bool (v17 == v18),.bool true,.agg (ap v7),.agg (ap v7),.bool v19,.bool v19,.bool true,.agg (ap v7),.agg (ap v9),.bool v20,.agg (ap v7),.agg (ap v9),.bool v21,.bool (v20 == v21),.bool (v20 == v21),.bool true,.agg (ap v9),.agg (ap v9),.bool v22,.bool v22]) [] [] [bS Tryz.prog 82 Tryz.f7 (pn 510) 26] (aq (vz 2) (ag (bL 0 1 58 (gl hK h25)) (aq (vz 2) (ag (bL 0 1 61 (lM hK h26)) (aq [.v 0 1] (ag (cm 0 63 (e:=(v17 == v18)) (b:=true) h27) (aq (vz 2) (ag (bL 0 1 66 (gl hK h28)) (aq [.v 0 1] (ag (cm 0 68 (e:=v19) (b:=true) h29) (aq (vz 2) (ag (bL 0 1 71 (m9 hK h30)) (aq (vz 2) (ag (bL 0 1 74 (u9 hK h31)) (aq (vz 2) (ag (cm 0 77 (e:=(v20 == v21)) (b:=true) h32) (aq (vz 2) (ag (bL 0 1 80 (m9 hK h33)) (aq [.v 0 1] (ag (bU 0) bz)))))))))))))))))))) (ac 0 (rN hA h))
    ·exact bw 1 (nu 56 [.agg (ap v7),.agg (ap v9),.bool v17,.agg (ap v7),.agg (ap v9),.bool v18,.bool (v17 == v18),.bool true,.agg (ap v7),.agg (ap v7),.bool v19,.bool v19,.bool true,.agg (ap v7),.agg (ap v9),.bool v20,.agg (ap v7),.agg (ap v9),.bool v21,.bool (v20 == v21),.bool (v20 == v21),.bool false,.tup [],.tup [],.tup [],.bool false]) [] [] [bS Tryz.prog 82 Tryz.f7 (pn 510) 26] (aq (vz 2) (ag (bL 0 1 58 (gl hK h25)) (aq (vz 2) (ag (bL 0 1 61 (lM hK h26)) (aq [.v 0 1] (ag (cm 0 63 (e:=(v17 == v18)) (b:=true) h27) (aq (vz 2) (ag (bL 0 1 66 (gl hK h28)) (aq [.v 0 1] (ag (cm 0 68 (e:=v19) (b:=true) h29) (aq (vz 2) (ag (bL 0 1 71 (m9 hK h30)) (aq (vz 2) (ag (bL 0 1 74 (u9 hK h31)) (aq (vz 2) (ag (cm 0 77 (e:=(v20 == v21)) (b:=false) h32) (ag (ay 0 1) (ag (ay 0 1) (ag (ay 0 1) (aq [.v 0 1] (ag (bU 0) bz))))))))))))))))))))) (ac 0 (rN hA h))
   ·exact bw 1 (nu 56 [.agg (ap v7),.agg (ap v9),.bool v17,.agg (ap v7),.agg (ap v9),.bool v18,.bool (v17 == v18),.bool true,.agg (ap v7),.agg (ap v7),.bool v19,.bool v19,.bool false,.tup [],.tup [],.tup [],.tup [],.tup [],.tup [],.tup [],.bool false,.bool false,.tup [],.tup [],.tup [],.bool false]) [] [] [bS Tryz.prog 82 Tryz.f7 (pn 510) 26] (aq (vz 2) (ag (bL 0 1 58 (gl hK h25)) (aq (vz 2) (ag (bL 0 1 61 (lM hK h26)) (aq [.v 0 1] (ag (cm 0 63 (e:=(v17 == v18)) (b:=true) h27) (aq (vz 2) (ag (bL 0 1 66 (gl hK h28)) (aq [.v 0 1] (ag (cm 0 68 (e:=v19) (b:=false) h29) (ag (ay 0 1) (ag (ay 0 1) (ag (ay 0 1) (ag (ay 0 1) (ag (ay 0 1) (ag (ay 0 1) (ag (ay 0 1) (aq (vz 2) (ag (ay 0 1) (ag (ay 0 1) (ag (ay 0 1) (aq [.v 0 1] (ag (bU 0) bz))))))))))))))))))))))) (ac 0 (rN hA h))
  ·exact bw 1 (nu 56 [.agg (ap v7),.agg (ap v9),.bool v17,.agg (ap v7),.agg (ap v9),.bool v18,.bool (v17 == v18),.bool false,.tup [],.tup [],.tup [],.bool false,.bool false,.tup [],.tup [],.tup [],.tup [],.tup [],.tup [],.tup [],.bool false,.bool false,.tup [],.tup [],.tup [],.bool false]) [] [] [bS Tryz.prog 82 Tryz.f7 (pn 510) 26] (aq (vz 2) (ag (bL 0 1 58 (gl hK h25)) (aq (vz 2) (ag (bL 0 1 61 (lM hK h26)) (aq [.v 0 1] (ag (cm 0 63 (e:=(v17 == v18)) (b:=false) h27) (ag (ay 0 1) (ag (ay 0 1) (ag (ay 0 1) (aq (vz 2) (ag (ay 0 1) (ag (ay 0 1) (ag (ay 0 1) (ag (ay 0 1) (ag (ay 0 1) (ag (ay 0 1) (ag (ay 0 1) (aq (vz 2) (ag (ay 0 1) (ag (ay 0 1) (ag (ay 0 1) (aq [.v 0 1] (ag (bU 0) bz))))))))))))))))))))))) (ac 0 (rN hA h))
theorem WC(hA:∀ [GS],ak K)(m:Nat):Nh M w0 r v7 v9 v10 v11 m (nr K n v7 v9 v10 v11 m):=by
 letI:GS:=⟨0⟩;have hK:=@hA ⟨0⟩
 induction m with
 | zero=>intro v15 h;cases h
 | succ m ih=>intro v15 h;have h:pA K n v7 v9 v10 v11 (nr K n v7 v9 v10 v11 m) v15=some r:=h;exact aZ (OW hA ih h)
theorem Lu(hA:∀ [GS],ak K)(h:qg K n v7 v9 v10 v11 v13=some r):zX M w0 r [lF 253,lF 127] (Zd v7 v9 v10 v11 v13):=by
 letI:GS:=⟨0⟩;have hK:=@hA ⟨0⟩
 unfold qg at h;obtain⟨h14,h⟩|⟨h14,h⟩:=am h
 ·refine ae 40 h14 (aJ 5 ?_);cases h;exact bp
 ·exact ae 40 h14 (ju 4 5 3 4 (ai 1 (au (bj (af .i64) v10) (ab (ac 1 (bK (p:=pn 1018) n (WC hA n h)))))))
theorem VW(hA:∀ [GS],ak K)(h:xL K n v1 v2=some r):aW Tryz.prog 7 [.sl (lm aH v1),.agg (dP v2)] (fun v _=>v=.bool r):=by
 letI:GS:=⟨0⟩;have hK:=@hA ⟨0⟩
 refine bB (cat Tryz.f7 (pn 1)) Tryz.func7 Tryz.ntmps7 fun M w0=>(ba ⟨[(0,.sl (lm aH v1)),(1,.agg (dP v2))],[],[],[]⟩ ?_);unfold xL at h;refine bN 12 13 7 4 (ai 0 ?_);obtain⟨v3,h1,h⟩:=bind_some h;refine aP (Pt hA h1) (ab ?_);obtain⟨h2,h⟩|⟨h2,h⟩:=am h
 ·refine ae 11 h2 (aJ 5 ?_);cases h;exact bp
 ·refine ae 11 h2 (ju 4 5 3 4 (ai 3 ?_));obtain⟨v4,h3,h⟩:=bind_some h;refine aP (To hK h3) (ab ?_);obtain⟨h4,h⟩|⟨h4,h⟩:=am h
  ·refine ae 16 h4 (aJ 5 ?_);cases h;exact bp
  ·refine ae 16 h4 (dQ 2 3 3 (bA [0,3] [3] [] ?_));obtain⟨v7,h7,h⟩:=bind_some h;obtain⟨v8,h8,h⟩:=bind_some h;obtain⟨v9,h9,h⟩:=bind_some h;refine bw 2 (nu 17 [.sl (lm aH v1),.agg (ap v7),.sl (lm aH v1),.agg (dP v2),.sl (lm aH v8),.agg (ap v9)]++nu 5 [.ptr 5 0,.ptr 6 0]) [(5,List.set (ap cA) 58 (.nils)),(6,List.set (ap cA) 58 (.nils))] [] [bS Tryz.prog 82 Tryz.f7 (pn 30) 8,bS Tryz.prog 82 Tryz.f7 (pn 30) 9] (aq [.v 0 1] (ag (bL 0 1 18 (Kq hK h7)) (aq [.v 0 2,.v 0 2] (ag (bL 0 2 21 (aW.cf (RH hK h8) (V':=.sl (lm aH v8)) (by kernel_rfl))) (ag (bL 0 1 22 (Kq hK h9)) (ag (i7 0 1 48 5 (List.set (ap cA) 58 (.nils))) (ag (i7 0 1 48 6 (List.set (ap cA) 58 (.nils))) (ag (bU 0) (ag (bU 1) bz))))))))) (av 2 3 1 (bA [5,6] [5,6] [] ?_));obtain⟨v10,h10,h⟩:=bind_some h;refine C0 5 0 [(23,.agg (ap v7)),(24,.agg (ap v9)),(25,.ref 25),(26,.agg (ap v7)),(27,.agg (ap v9))] [] [(25,⟨3,1,lm (af .i64) v10⟩)] [] (aq (vz 2) (ag (rq 0 1 25 (Gj hK h10) (dt 400005)) (aq (vz 2) (lR)))) ?_
   obtain⟨v11,h11,h⟩:=bind_some h;refine W2 405028 9 3 1 [] (N6 hK h11) (ab (bN 4 5 3 2 (ai 1 (au (bj (af .i64) v10) (aO 3 1 (au (bj (af .i64) v11) (aO 6 2 ?_)))))));obtain⟨h12,h⟩|⟨h12,h⟩:=am h
   ·exact aC 34 h12 (ab (ac 0 (Lu hA h)))
   ·refine aC 34 h12 (aO 8 2 ?_);obtain⟨v12,h13,h⟩:=bind_some h;exact dI 1037 (Gj hK h13) (dt 400005) (au (bj (af .i64) v12) (ab (ac 0 (Lu hA h))))
end
end Go.Proofs.YtocgkfoifehcbaaGreat

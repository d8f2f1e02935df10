/- Calls that are lent variables and one slice, with a result of which a slice is the callee's own; calls that are lent the state of layer 22. No program in sight. -/
import Derived.Test.YtocgkfoifehcbaaGreatRcVv
namespace Go.Proofs.YtocgkfoifehcbaaGreat
set_option linter.all false
open Go.RowKit
def wG(sid:Nat)(ar1:bE)(o2:List (Nat×List AV))(nid:Nat)(ar3:bE)(s:AS):AS:=⟨cS sid s.t,ot o2 (dG sid s.o),bg nid ar3 (bg sid ar1 s.r),nid::s.u⟩
theorem HS.V3{M:Nat→Prop}{w0:aB}{w w':World}{ι ι1:Env}{s s1:AS}(h:HS M w0 w ι s){ρo ρ ρ':List (Nat×Nat)}{sid sj:Nat}{ar ar1:bE}{O O1 o2:List (Nat×List AV)}(hρ:ρ=(sid,sj)::ρo)(hn:eQ ρ ρ'=true)(hO:dU ρ s.o ρo=some O)(hr:look sid s.r=some ar)
  (hnp:s.u.contains (cL sid)=false) (hso:look sid s.o=none) (hor:∀p∈ρo,look p.1 s.r=none) (hal:∀p∈ρo,∃y,b8 ρ' ι p.2=some y)
  (h1:HS (fun b=>NN M ι b∧∀i,bo (b8 ρ' ι i)≠some b) (iy w (b8 ρ' ι) O) w' ι1 s1) (hO1:bW s1.o O1) (hr1:look sj s1.r=some ar1) (hb:c8 ρ' O1 ρo=some o2)
  {nid oid:Nat} {ar3:bE} {v3:Value} (hnn:has s.u nid=false) (hnr:look nid ρ=none) (hoj:oid≠sj) (hoo:look oid ρ'=none) (htg:oid<TG) (hv3:ι1 oid=some v3) (ha3:look oid s1.r=some ar3) :
  HS M w0 w' (ext (cp ι ι1 sid sj) nid v3) (wG sid ar1 o2 nid ar3 s)∧(∀{v:AV} {x:Value},Rel (NN M ι) w ι v x→Rel (NN M (ext (cp ι ι1 sid sj) nid v3)) w' (ext (cp ι ι1 sid sj) nid v3) (v.ct sid) x) ∧
   (∀{v v':AV} {x:Value},Rel (NN (fun b=>NN M ι b∧∀i,bo (b8 ρ' ι i)≠some b) ι1) w' ι1 v x→db ((oid,nid)::ρ') v=some v'→Rel (NN M (ext (cp ι ι1 sid sj) nid v3)) w' (ext (cp ι ι1 sid sj) nid v3) v' x):=by
 have hs0:look sid ρ=some sj:=by rw[hρ];simp[look]
 have hE:∀i,i≠nid→ext (cp ι ι1 sid sj) nid v3 i=cp ι ι1 sid sj i:=fun i hi=>bJ _ _ hi;have hEn:ext (cp ι ι1 sid sj) nid v3 nid=some v3:=cn _ _ _;have hrn:∀id j,look id ρ=some j→id≠nid:=fun id j e e'=>by rw[e',hnr]at e;cases e
 have hsn:sid≠nid:=hrn _ _ hs0;have hno:=h.free hnn;have hun:∀i,has s.u i=true→i≠nid:=fun i hi e=>by rw[e,hnn]at hi;cases hi
 have f1:∀id j,(id,j)∈ρo→ι1 j=ι id∧look j ρ'=some id:=fun id j hm=>by
  have e1:look j ρ'=some id:=by
   have hn':=hn;simp only[eQ,Bool.and_eq_true,List.all_eq_true]at hn';exact lI (hn'.1 (id,j) (by rw[hρ];exact List.mem_cons_of_mem _ hm)).1
  obtain⟨y,hy⟩:=hal _ hm;obtain⟨c,hc⟩:=qJ hO hm;have hp:=(h1.pin j y (by show(match look j O with|some _=>b8 ρ' ι j|none=>none)=some y;rw[hc];exact hy)).1;refine⟨?_,e1⟩;rw[hp,← gI (ι:=ι) e1];exact hy.symm
 have f2:∀j id,look j ρ'=some id→cp ι ι1 sid sj id=ι1 j:=fun j id e=>by
  have e2:=d5 hn e;unfold cp;by_cases ei:id=sid
  ·subst ei;rw[if_pos rfl];rw[hs0]at e2;injection e2 with e2;rw[e2]
  ·rw[if_neg ei];have:=fU e2;rw[hρ]at this;rcases List.mem_cons.1 this with e3|e3
   ·injection e3 with e4 e5;exact absurd e4 ei
   ·exact(f1 id j e3).1.symm
 have lent:∀{q b},bo (b8 ρ' ι q)=some b→∃id,look q ρ'=some id∧bo (ι id)=some b:=fun {q b} hq=>by
  cases he:b8 ρ' ι q with
  | none=>rw[he]at hq;cases hq
  | some y=>obtain⟨id,e1,e2⟩:=gf he;exact⟨id,e1,by rw[e2];rw[he]at hq;exact hq⟩
 have o3:∀g,bo (some v3)=some g→(w.heap.size≤g∨bo (ι sid)=some g)∧g<w'.heap.size∧bo (ι1 sj)≠some g:=fun g hg=>by
  have hg1:bo (ι1 oid)=some g:=by rw[hv3];exact hg
  obtain⟨q1,q2⟩:=h1.own oid g hg1;refine⟨?_,q2,fun e=>hoj (h1.inj oid sj g hg1 e)⟩;rcases q1 with q1|⟨q,q1⟩
  ·exact .inl q1
  ·obtain⟨id,e1,e2⟩:=lent q1;have:=fU (d5 hn e1);rw[hρ]at this;rcases List.mem_cons.1 this with e3|e3
   ·injection e3 with e4 e5;rw[e4]at e2;exact .inr e2
   ·have e9:=(f1 id q e3).1;have:=h1.inj q oid g (by rw[e9];exact e2) hg1;rw[this,hoo]at e1;cases e1
 have hsz:w.heap.size≤w'.heap.size:=h1.below.size;have bR:∀b,b<w.heap.size→(∀i,bo (b8 ρ' ι i)≠some b)→w'.heap[b]?=w.heap[b]?:=fun b hlt hb=>h1.below.block b hlt (fun⟨i,hi⟩=>hb i hi);have keep':∀b,b<w.heap.size→¬ NN M ι b→w'.heap[b]?=w.heap[b]?:=fun b hlt hb=>bR b hlt (fun i hi=>by
  obtain⟨id,_,e⟩:=lent hi;exact hb (.inr ⟨id,e⟩))
 have hN2:∀b,NN M (ext (cp ι ι1 sid sj) nid v3) b→NN (fun b=>NN M ι b∧∀i,bo (b8 ρ' ι i)≠some b) ι1 b:=fun b hb=>by
  rcases hb with hb|⟨id,hb⟩
  ·exact .inl ⟨.inl hb,fun i hi=>by obtain⟨id,_,e⟩:=lent hi;exact h.sep hb e⟩
  ·by_cases en:id=nid
   ·rw[en,hEn]at hb;exact .inr ⟨oid,by rw[hv3];exact hb⟩
   rw[hE _ en]at hb;unfold cp at hb;by_cases ei:id=sid
   ·rw[if_pos ei]at hb;exact .inr ⟨sj,hb⟩
   ·rw[if_neg ei]at hb;by_cases hl:∃i,bo (b8 ρ' ι i)=some b
    ·obtain⟨q,hq⟩:=hl;obtain⟨id2,e1,e2⟩:=lent hq;have:=h.inj id2 id b e2 hb;subst this;have:=f2 q id2 e1;unfold cp at this;rw[if_neg ei]at this;exact .inr ⟨q,by rw[←this];exact hb⟩
    ·exact .inl ⟨.inr ⟨id,hb⟩,fun i hi=>hl ⟨i,hi⟩⟩
 have hNo:∀b,b<w.heap.size→NN M (ext (cp ι ι1 sid sj) nid v3) b→NN M ι b:=fun b hlt hb=>by
  rcases hb with hb|⟨id,hb⟩
  ·exact .inl hb
  ·by_cases en:id=nid
   ·rw[en,hEn]at hb;rcases (o3 b hb).1 with e|e
    ·exact absurd hlt (Nat.not_lt.2 e)
    ·exact .inr ⟨sid,e⟩
   rw[hE _ en]at hb;unfold cp at hb;by_cases ei:id=sid
   ·rw[if_pos ei]at hb;rcases (h1.own sj b hb).1 with e|⟨q,e⟩
    ·exact absurd hlt (Nat.not_lt.2 e)
    ·obtain⟨id2,_,e2⟩:=lent e;exact .inr ⟨id2,e2⟩
   ·rw[if_neg ei]at hb;exact .inr ⟨id,hb⟩
 have T:∀{v:AV} {x:Value},Rel (NN M ι) w ι v x→Rel (NN M (ext (cp ι ι1 sid sj) nid v3)) w' (ext (cp ι ι1 sid sj) nid v3) (v.ct sid) x:=fun hv =>
  (hv.mono hsz hNo keep' (dx hno v3)).ct (fun i hi=>by
   by_cases en:i=nid
   ·rw[en,hEn];exact(cn _ _ _).symm
   ·rw[hE _ en,bJ _ _ en];exact if_neg hi)
 have np:w0.pv sid=none:=h.np hnp;refine⟨⟨?_,h.old,fun i y hy=>?_,fun i g hg=>?_,fun i i' g hg hg'=>?_,fun i c hi=>?_,fun i a hi=>?_,fun i c hi hp=>?_,fun i a hi hp=>?_,fun i v hp=>?_⟩,T,fun hv e=>oM hv hN2 (fun j id e=>?_) e⟩
 ·refine h.below.trans ⟨h1.below.os,h1.below.tape,h1.below.output,hsz,fun k hk hG=>bR k (Nat.lt_of_lt_of_le hk h.below.size) (fun i hi=>?_)⟩;obtain⟨id,_,e⟩:=lent hi;rcases (h.own id k e).1 with h9|h9
  ·exact absurd hk (Nat.not_lt.2 h9)
  ·exact hG h9
 ·by_cases en:i=nid
  ·subst en;exact fR _ _
  rw[hE _ en]at hy;unfold cp at hy;by_cases ei:i=sid
  ·subst ei;exact dr (h.kr i ar hr)
  ·rw[if_neg ei]at hy;exact dr (h.use i y hy)
 ·by_cases en:i=nid
  ·rw[en,hEn]at hg;obtain⟨q1,q2,_⟩:=o3 g hg;refine⟨?_,q2⟩;rcases q1 with q1|q1
   ·exact .inl (Nat.le_trans h.below.size q1)
   ·exact(h.own sid g q1).1
  rw[hE _ en]at hg;unfold cp at hg;by_cases ei:i=sid
  ·rw[if_pos ei]at hg;obtain⟨q1,q2⟩:=h1.own sj g hg;refine⟨?_,q2⟩;rcases q1 with q1|⟨q,q1⟩
   ·exact .inl (Nat.le_trans h.below.size q1)
   ·obtain⟨id,_,e⟩:=lent q1;exact(h.own id g e).1
  ·rw[if_neg ei]at hg;exact⟨(h.own i g hg).1,Nat.lt_of_lt_of_le (h.own i g hg).2 hsz⟩
 ·have one:∀i',i'≠sid→bo (ι1 sj)=some g→bo (ι i')=some g→False:=fun i' hi' hg hg'=>by
   rcases (h1.own sj g hg).1 with q1|⟨q,q1⟩
   ·exact absurd (h.own i' g hg').2 (Nat.not_lt.2 q1)
   ·obtain⟨id,e1,e2⟩:=lent q1;have:=h.inj id i' g e2 hg';subst this;have e3:=f2 q id e1;unfold cp at e3;rw[if_neg hi']at e3;have:=h1.inj q sj g (by rw[←e3];exact e2) hg;subst this;have:=(dN hn hs0).1;rw[e1]at this;injection this with this;exact hi' this
  have new:∀i',i'≠nid→bo (some v3)=some g→bo (cp ι ι1 sid sj i')=some g→False:=fun i' hi' hg hg'=>by
   obtain⟨q1,_,q3⟩:=o3 g hg;unfold cp at hg';by_cases ei:i'=sid
   ·rw[if_pos ei]at hg';exact q3 hg'
   ·rw[if_neg ei]at hg';rcases q1 with q1|q1
    ·exact absurd (h.own i' g hg').2 (Nat.not_lt.2 q1)
    ·exact ei (h.inj i' sid g hg' q1)
  by_cases en:i=nid
  ·by_cases en':i'=nid
   ·rw[en,en']
   ·rw[en,hEn]at hg;rw[hE _ en']at hg';exact(new i' en' hg hg').elim
  by_cases en':i'=nid
  ·rw[en',hEn]at hg';rw[hE _ en]at hg;exact(new i en hg' hg).elim
  rw[hE _ en]at hg;rw[hE _ en']at hg';unfold cp at hg hg';by_cases ei:i=sid
  ·by_cases ei':i'=sid
   ·rw[ei,ei']
   ·rw[if_pos ei]at hg;rw[if_neg ei']at hg';exact(one i' ei' hg hg').elim
  ·by_cases ei':i'=sid
   ·rw[if_neg ei]at hg;rw[if_pos ei']at hg';exact(one i ei hg' hg).elim
   ·rw[if_neg ei]at hg;rw[if_neg ei']at hg';exact h.inj i i' g hg hg'
 ·rcases qu hi with e|⟨_,e⟩
  ·obtain⟨j,d,q1,_,_⟩:=oc hb e;obtain⟨c0,hc0⟩:=qJ hO q1;obtain⟨id2,cs,p1,p2,p3⟩:=xo hO hc0;have e1:=(f1 i j q1).2;have e2:=(f1 id2 j p1).2;rw[e1]at e2;injection e2 with e2;subst e2
   exact dr (h.ko i cs p2)
  ·obtain⟨u,hu,_⟩:=fM e;exact dr (h.ko i u hu)
 ·have hi':look i (bg nid ar3 (bg sid ar1 s.r))=some a:=hi;rw[ce]at hi';split at hi'
  ·rename_i e;subst e;exact fR _ _
  rw[ce]at hi';split at hi'
  ·rename_i e;subst e;exact dr (h.kr i ar hr)
  ·exact dr (h.kr i a hi')
 ·rcases qu hi with e|⟨en,e⟩
  ·obtain⟨j,d,q1,q2,q3⟩:=oc hb e;have e9:=(f1 i j q1).2;have ein:i≠nid:=hrn i j (d5 hn e9);have e1:=f2 j i e9;rw[hE _ ein,e1]at hp;rw[hE _ ein,e1];obtain⟨g,T0,vs,r1,r2,r3⟩:=h1.objs j d (zM hO1 q2) hp;exact⟨g,⟨T0.1,Eu (AY hn e9) (dN hn (d5 hn e9)).2.2 T0.2⟩,vs,r1,r2,r3.rn hN2 (fun j id e=>(hE _ (hrn id j (d5 hn e))).trans (f2 j id e)) q3⟩
  ·obtain⟨u,hu,rfl⟩:=fM e;have ei:i≠sid:=fun e=>by rw[e,hso]at hu;cases hu
   have ein:i≠nid:=hun i (h.ko i u hu);have e1:cp ι ι1 sid sj i=ι i:=if_neg ei;rw[hE _ ein,e1]at hp;rw[hE _ ein,e1];obtain⟨g,T0,vs,r1,r2,r3⟩:=h.objs i u hu hp;refine⟨g,T0,vs,r1,(bR g (h.own i g (by rw[r1];rfl)).2 (fun q hq=>?_)).trans r2,⟨by rw[ip];exact r3.len,r3.one,fun k x v hx hv=>?_⟩⟩
   ·obtain⟨id,e2,e3⟩:=lent hq;have:=h.inj id i g e3 (by rw[r1];rfl);subst this;have:=fU (d5 hn e2);rw[hρ]at this;rcases List.mem_cons.1 this with e4|e4
    ·injection e4 with e5 e6;exact ei e5
    ·exact zR hb e4 en
   ·obtain⟨y,hy,rfl⟩:=iw hx;exact T (r3.rel k y v hy hv)
 ·have hi':look i (bg nid ar3 (bg sid ar1 s.r))=some a:=hi;rw[ce]at hi';split at hi'
  ·rename_i e;subst e;injection hi' with hi';subst hi'
   rw[hEn];obtain⟨v,xs,q1,q2,q3,q4,q5⟩:=h1.arrs oid ar3 ha3 (by rw[hv3];rfl);rw[hv3]at q1;injection q1 with q1;subst q1
   refine⟨v3,xs,rfl,q2,q3,q4,fun j e hj k c hk=>?_⟩;obtain⟨x,hx,hrx⟩:=q5 j e hj k c hk;exact⟨x,hx,.inl ((hrx.flat (by omega)).mono (Nat.le_refl _) (fun b _ hb=>hN2 b hb) (fun _ _ _=>rfl) (fun _ _ h=>h))⟩
  rename_i ein;rw[ce]at hi';split at hi'
  ·rename_i e;subst e;injection hi' with hi';subst hi'
   have e1:cp ι ι1 i sj i=ι1 sj:=if_pos rfl;rw[hE _ ein,e1]at hp;rw[hE _ ein,e1];have htj:=(dN hn hs0).2.2;obtain⟨v,xs,q1,q2,q3,q4,q5⟩:=h1.arrs sj ar1 hr1 hp;refine⟨v,xs,q1,q2,q3,q4,fun j e hj k c hk=>?_⟩;obtain⟨x,hx,hrx⟩:=q5 j e hj k c hk;exact⟨x,hx,.inl ((hrx.flat (by omega)).mono (Nat.le_refl _) (fun b _ hb=>hN2 b hb) (fun _ _ _=>rfl) (fun _ _ h=>h))⟩
  ·rename_i ei;have e1:cp ι ι1 sid sj i=ι i:=if_neg ei;rw[hE _ ein,e1]at hp;rw[hE _ ein,e1];obtain⟨v,xs,q1,q2,q3,q4,q5⟩:=h.arrs i a hi' hp;have hts:=(dN hn hs0).2.1;refine⟨v,xs,q1,d4 q2 (fun g hg=>bR g (h.own i g (by rw[q1];exact hg)).2 (fun q hq=>?_)),q3,q4,fun j e hj k c hk=>?_⟩
   ·obtain⟨id,e2,e3⟩:=lent hq;have:=h.inj id i g e3 (by rw[q1];exact hg);subst this;have:=fU (d5 hn e2);rw[hρ]at this;rcases List.mem_cons.1 this with e4|e4
    ·injection e4 with e5 e6;exact ei e5
    ·have:=hor _ e4;rw[hi']at this;cases this
   ·obtain⟨x,hx,hrx⟩:=q5 j e hj k c hk;have nb:∀q:Nat,kW≤nm i q:=fun q=>Nat.le_add_right _ _;have lb:TG<kW:=by decide
    refine⟨x,hx,hrx.mono hsz hNo keep' (fun r hr0=>?_) (fun r hr0=>bR r (h.fV hr0) (fun q hq=>?_)) (fun h=>h)⟩
    ·exact(hE _ (hun _ (Kj _ _ _))).trans ((if_neg (fun e=>by have:=nb (j*a.sz+k);omega)).trans hr0)
    ·obtain⟨id,e2,e3⟩:=lent hq;have:=h.inj id _ r e3 (by rw[hr0];rfl);have h9:=(dN hn (d5 hn e2)).2.1;have:=nb (j*a.sz+k);omega
 ·obtain⟨q1,q2⟩:=h.pin i v hp;have ein:i≠nid:=hun i (h.use i v q1);refine⟨?_,jP q2⟩;have ei:i≠sid:=fun e=>by rw[e,np]at hp;cases hp
  exact(hE _ ein).trans ((if_neg ei).trans q1)
 ·simp only[look]at e;split at e
  ·rename_i ej;injection e with e;subst e;subst ej;exact hEn.trans hv3.symm
  ·exact(hE _ (hrn id j (d5 hn e))).trans (f2 j id e)
def mC(cx:Cx)(ι:Env)(w:World)(ρ:List (Nat×Nat))(args:List AV)(xs:Array Value):Prop :=
 args.length=xs.size∧∀(i:Nat) (v:AV) (x:Value),args[i]?=some v→xs[i]?=some x→∀(N':Nat→Prop) (ι0:Env),(∀b,N' b→NN cx.M ι b)→(∀id j,look id ρ=some j→ι0 j=ι id)→Rel N' w ι0 v x
def fz(f g:Nat):Value:=.func (.func f) #[.pointer (some ⟨g,0,none⟩)] #[]
def iP(s:AS)(o:Oper)(ρ:List (Nat×Nat)):Option (FuncId×List AV) :=
 match o.op with
 | .call c=>match c.callee with
  | .value fo=>match s.ev fo,cN s c.args.toList with
   | some (.fn f aK),some l=>match ef ρ l with
    | some l'=>some (f,l'++aK)
    | none=>none
   | _,_=>none
  | _=>none
 | _=>none
def Fz(s:AS)(o:Oper)(ρ:List (Nat×Nat)):Option (Value×List AV) :=
 match o.op with
 | .call c=>match c.callee with
  | .value fo=>match s.ev fo,cN s c.args.toList with
   | some (.vv x),some l=>match ef ρ l with
    | some l'=>some (x,l')
    | none=>none
   | _,_=>none
  | _=>none
 | _=>none
section
variable{cx:Cx}{s:AS}{a:Act}{w:World}{ι:Env}
theorem MJ(hs:aU cx s a w ι){l l':List AV}{xs:Array Operand}{ρ:List (Nat×Nat)}(hl:cN s xs.toList=some l)(hl':ef ρ l=some l'):mC cx ι w ρ l' (xs.map a.eval):=by
 obtain⟨q1,q2⟩:=ij hs hl;refine⟨by rw[nc hl'];simp at q1⊢;omega,fun i v x hv hx N' ι0 hN hι=>?_⟩;obtain⟨b,hb,hbv⟩:=ms hl' i v hv;exact oM (q2 i b x hb (by rw[←Array.toList_map,Array.getElem?_toList];exact hx)) hN hι hbv
theorem wN(hs:aU cx s a w ι){o:Oper}{ρ:List (Nat×Nat)}{g:FuncId}{args:List AV}(h:iP s o ρ=some (g,args))(hcl:co cx.P g=true):
  ∃xs:Array Value,(execOp a.eval o).run cx.P w=.ok (.enter g xs) w∧mC cx ι w ρ args xs:=by
 unfold iP at h;split at h
 case h_2=>cases h
 rename_i c hop;split at h
 case h_2=>cases h
 rename_i fo hcal;split at h
 case h_2=>cases h
 rename_i f aK l hf hl;split at h
 case h_2=>cases h
 rename_i l' hl';injection h with h;injection h with e1 e2;subst e1;subst e2
 obtain⟨ys,hrc,hc1,hc2⟩:=gE hs hop hcal hf hcl;obtain⟨p1,p2⟩:=MJ hs hl hl';refine⟨_,hrc,by simp at p1⊢;omega,fun i v x hv hx N' ι0 hN hι=>?_⟩;by_cases hi:i<l'.length
 ·rw[List.getElem?_append_left hi]at hv;rw[Array.getElem?_append_left (by rw[←p1];exact hi)]at hx;exact p2 i v x hv hx N' ι0 hN hι
 ·rw[List.getElem?_append_right (by omega)]at hv;rw[Array.getElem?_append_right (by rw[←p1];omega)]at hx;rw[←p1]at hx;exact(hc2 _ v x hv (by simpa using hx)).mono (Nat.le_refl _) (fun b _ hb=>hN b hb) (fun _ _ _=>rfl) (fun id y hy=>by cases hy)
theorem Sw(hs:aU cx s a w ι){o:Oper}{ρ:List (Nat×Nat)}{f g j id:Nat}{args:List AV}(h:Fz s o ρ=some (fz f g,args))(hcl:co cx.P f=true)(hρ:look id ρ=some j)(hg:ι id=some (.pointer (some ⟨g,0,none⟩))):
  ∃xs:Array Value,(execOp a.eval o).run cx.P w=.ok (.enter f xs) w∧mC cx ι w ρ (.ptr j 0::args) xs:=by
 unfold Fz at h;split at h
 case h_2=>cases h
 rename_i c hop;split at h
 case h_2=>cases h
 rename_i fo hcal;split at h
 case h_2=>cases h
 rename_i x l hf hl;split at h
 case h_2=>cases h
 rename_i l' hl';injection h with h;injection h with e1 e2;subst e1;subst e2
 obtain⟨p1,p2⟩:=MJ hs hl hl';have hr:=hs.ev hf;generalize hX:a.eval fo=X at hr;cases hr with
 | vv _ _ h9 =>
  refine⟨#[.pointer (some ⟨g,0,none⟩)]++c.args.map a.eval,?_,by simp at p1⊢;omega,fun i v x hv hx N' ι0 hN hι=>?_⟩
  ·unfold execOp;simp only[hop,resolve,hcal,hX,fz,Deferred.ofValue,Sem.run_bind,Sem.run_pure,Result.andThen_ok,invoke];rw[Dc hcl];simp
  ·cases i with
   | zero =>
    simp only[List.getElem?_cons_zero]at hv;injection hv with hv;subst hv
    rw[Array.getElem?_append_left (by simp)]at hx;have hx':some (Value.pointer (some ⟨g,0,none⟩))=some x:=hx;injection hx' with hx';subst hx'
    exact .ptr _ _ _ _ ((hι id j hρ).trans hg)
   | succ i =>
    simp only[List.getElem?_cons_succ]at hv;rw[Array.getElem?_append_right (by simp)]at hx;exact p2 i v x hv (by simpa using hx) N' ι0 hN hι
end
def nl(ρ:List (Nat×Nat)):AV→Option AV
 | .tup l=>match ef ρ l with|some l'=>some (.tup l')|none=>none
 | v=>db ρ v
theorem Zu{N N':Nat→Prop}{w w':World}{ι ι':Env}{ρ:List (Nat×Nat)}(G:∀{v v':AV} {x:Value},Rel N w ι v x→db ρ v=some v'→Rel N' w' ι' v' x){v v':AV}{x:Value}(h:Rel N w ι v x)(e:nl ρ v=some v'):Rel N' w' ι' v' x:=by
 unfold nl at e;split at e
 ·rename_i l;split at e
  ·rename_i l' hl;injection e with e;subst e
   cases h with
   | tup _ _ vs hl1 hr =>
    refine .tup _ _ vs (by rw[nc hl];exact hl1) (fun i c y hc hy=>?_);obtain⟨b,hb,hbc⟩:=ms hl i c hc;exact G (hr i b y hb hy) hbc
  ·cases e
 ·exact G h e
class GS where
 g:Nat
class SG [GS] (w0:aB):Prop where
 pv:w0.pv 440001=some (.pointer (some ⟨GS.g,0,none⟩))
def SU:List Nat:=[440009,440001,1440001]
def dA[GS](P:Program)(f:FuncId)(args:List AV)(O:List (Nat×List AV))(ar:bE)(Q:AV→AS→Prop):Prop :=
 ∀(M:Nat→Prop) (w:World) (ι0:Env) (xs:Array Value),ι0 440001=some (.pointer (some ⟨GS.g,0,none⟩))→HS M (iy w ι0 O) w ι0 ⟨[],O,[(440009,ar)],SU⟩→args.length=xs.size→(∀(i:Nat) (a:AV) (x:Value),args[i]?=some a→xs[i]?=some x→Rel (NN M ι0) w ι0 a x)→Calls P f xs w (bC M (iy w ι0 O) Q)
theorem fZ[GS]{P:Program}{f:FuncId}{fn:Func}{c:Code}{args:List AV}{O:List (Nat×List AV)}{ar:bE}{Q:AV→AS→Prop}(hf:P.funcs[f]?=some fn)(hb:fn.body=some c)(n:Nat)(hn:fn.ntmps=n)(hl:args.length≤n)
  (h:∀M w0 [SG w0],VE ⟨P,n,M,w0⟩ (bodyPost P fn (bC M w0 Q)) [.c c] .normal ⟨idxs 0 args,O,[(440009,ar)],SU⟩) (hO:(look 440001 O).isSome=true:=by kernel_rfl):dA P f args O ar Q:=by
 intro M w ι0 xs hg hs hlx hx;obtain⟨c0,hc0⟩:=Option.isSome_iff_exists.1 hO;haveI:SG (iy w ι0 O):=⟨by show(match look 440001 O with|some _=>ι0 440001|none=>none)=_;rw[hc0];exact hg⟩;refine calls_of_wp hf hb ?_;refine wp_mono (h M (iy w ι0 O) { tmps:=xs++Array.replicate (fn.ntmps-xs.size) undef,defers:=[] } w ι0 ?_) (fun e a w' hq=>?_)
 ·refine⟨⟨hs.below,hs.old,hs.use,hs.own,hs.inj,hs.ko,hs.kr,hs.objs,hs.arrs,hs.pin⟩,rfl,?_,fun k v hk=>?_⟩
  ·simp;omega
  ·rw[lr,if_pos (Nat.zero_le _),Nat.sub_zero]at hk;have hlt:k<xs.size:=by rw[←hlx];exact(List.getElem?_eq_some_iff.1 hk).1
   refine⟨xs[k],?_,hx k v _ hk (Array.getElem?_eq_getElem hlt)⟩;simp only[];rw[Array.getElem?_append_left hlt,Array.getElem?_eq_getElem hlt]
 ·cases e<;>exact hq
def bI(vid sid:Nat):List (Nat×Nat):=[(sid,440009),(vid,440001)]
def gi(s:AS)(vid sid:Nat):Bool :=
 eQ (bI vid sid) (bP (bI vid sid))&&(o5 SU [(vid,440001)] 440009&&((match s.u.contains (cL sid) with|true=>false|false=>true)&&((match look sid s.o with|none=>true|some _=>false) &&
  (match look vid s.r with|none=>true|some _=>false))))
def q8(s:AS)(vid sid nid oid:Nat):Bool:=(match has s.u nid with|true=>false|false=>true)&&((match look nid (bI vid sid) with|none=>true|some _=>false)&&((match Nat.beq oid 440009 with|true=>false|false=>true)&&((match look oid (bP (bI vid sid)) with|none=>true|some _=>false)&&Nat.ble (oid+1) TG)))
theorem T5{s:AS}{vid sid nid oid:Nat}(h:q8 s vid sid nid oid=true):has s.u nid=false∧look nid (bI vid sid)=none∧oid≠440009∧look oid (bP (bI vid sid))=none∧oid<TG:=by
 simp only[q8,Bool.and_eq_true]at h;obtain⟨h1,h2,h3,h4,h5⟩:=h;refine⟨?_,?_,fun e=>?_,?_,Nat.le_of_ble_eq_true h5⟩
 ·cases hq:has s.u nid with
  | true=>rw[hq]at h1;cases h1
  | false=>rfl
 ·cases hq:look nid (bI vid sid) with
  | some _=>rw[hq]at h2;cases h2
  | none=>rfl
 ·rw[e]at h3;cases h3
 ·cases hq:look oid (bP (bI vid sid)) with
  | some _=>rw[hq]at h4;cases h4
  | none=>rfl
section
variable{cx:Cx}{Q:Exit→Act→World→Prop}{ks:List ao}{s:AS}{all:Array Oper}{f:Func}{p:List Nat}{i:Nat}
theorem MW[GS]{a:Act}{w:World}{ι:Env}(hs:aU cx s a w ι)(vid sid:Nat){g:FuncId}{args:List AV}{V1 V2:AV}{O O1 o2:List (Nat×List AV)}{ar ar1:bE}(hc:dA cx.P g args O ar (fun v s1=>v=V1∧bW s1.o O1∧look 440009 s1.r=some ar1))
  (hg:ι vid=some (.pointer (some ⟨GS.g,0,none⟩))) {o:Oper}
  (hrun:∃xs:Array Value,(execOp a.eval o).run cx.P w=.ok (.enter g xs) w∧mC cx ι w (bI vid sid) args xs)
  (hO:dU (bI vid sid) s.o [(vid,440001)]=some O) (hr:look sid s.r=some ar) (hb2:c8 (bP (bI vid sid)) O1 [(vid,440001)]=some o2) (hv2:db (bP (bI vid sid)) V1=some V2)
  (hd:cq cx.n o.dst=true) (hok:gi s vid sid=true) {Kn:Act→World→Prop} {Q:Exit→Act→World→Prop} (k:∀x w' ι1,aU cx ((fS sid ar1 o2 s).put o.dst V2) (a.put o.dst x) w' (cp ι ι1 sid 440009)→Kn (a.put o.dst x) w'):o.wp cx.P a w Kn Q:=by
 simp only[gi,Bool.and_eq_true]at hok;obtain⟨k1,k2,k3,k4,k5⟩:=hok;have hnp:s.u.contains (cL sid)=false:=by
  cases hq:s.u.contains (cL sid) with
  | true=>rw[hq]at k3;cases k3
  | false=>rfl
 have hso:look sid s.o=none:=by
  cases hq:look sid s.o with
  | some _=>rw[hq]at k4;cases k4
  | none=>rfl
 have hor:∀p∈[(vid,440001)],look p.1 s.r=none:=fun p hp=>by
  rw[List.mem_singleton.1 hp];cases hq:look vid s.r with
  | some _=>rw[hq]at k5;cases k5
  | none=>rfl
 have hsv:b8 (bP (bI vid sid)) ι 440001=ι vid:=gI (dN k1 (by
  show look vid [(sid,440009),(vid,440001)]=some 440001;have:vid≠sid:=fun e=>by
   have h1:=(dN (id:=sid) (j:=440009) k1 (by simp[bI,look])).1;have hn':=k1;simp only[eQ,Bool.and_eq_true,List.all_eq_true]at hn';have h2:=(hn'.1 (vid,440001) (by simp[bI])).1;have h3:=d5 k1 (lI h2);rw[e]at h3;simp[bI,look]at h3
  simp[look,this])).1
 unfold Oper.wp;obtain⟨xs,hrc,hxl,hxr⟩:=hrun;rw[hrc,Oper.upon_enter];have hN:∀b,NN (fun b=>NN cx.M ι b∧∀i,bo (b8 (bP (bI vid sid)) ι i)≠some b) (b8 (bP (bI vid sid)) ι) b→NN cx.M ι b:=fun b hb=>by
  rcases hb with hb|⟨j,hb⟩
  ·exact hb.1
  ·cases he:b8 (bP (bI vid sid)) ι j with
   | none=>rw[he]at hb;cases hb
   | some y=>obtain⟨id,_,h2⟩:=gf he;exact .inr ⟨id,by rw[h2];rw[he]at hb;exact hb⟩
 have hargs:∀(i:Nat) (a:AV) (x:Value),args[i]?=some a→xs[i]?=some x→Rel (NN (fun b=>NN cx.M ι b∧∀i,bo (b8 (bP (bI vid sid)) ι i)≠some b) (b8 (bP (bI vid sid)) ι)) w (b8 (bP (bI vid sid)) ι) a x:=fun i v x hv hx =>
  hxr i v x hv hx _ _ hN (fun id j e=>gI (dN k1 e).1)
 have hal:∀p∈[(vid,440001)],∃y,b8 (bP (bI vid sid)) ι p.2=some y:=fun p hp=>by
  rw[List.mem_singleton.1 hp];exact⟨_,hsv.trans hg⟩
 refine (hc _ w _ xs (hsv.trans hg) (hs.hs.AQ rfl k1 hO hr k2) hxl hargs).mono ?_
 rintro e w' ⟨x,v,s1,ι1,rfl,⟨rfl,hO1,hr1⟩,hhs,hrx⟩
 obtain⟨g1,g2,g3⟩:=hs.hs.MT rfl k1 hO hr hnp hso hor hal hhs hO1 hr1 hb2;have hsim:aU cx (fS sid ar1 o2 s) a w' (cp ι ι1 sid 440009):=⟨g1,hs.dfr,hs.n,fun k v hk=>by
  obtain⟨u,hu,rfl⟩:=jV hk;obtain⟨y,hy,hr⟩:=hs.tmp k u hu;exact⟨y,hy,g2 hr⟩⟩
 exact k _ _ _ (hsim.put (ep hd) (g3 hrx hv2))
theorem CV[GS]{a:Act}{w:World}{ι:Env}(hs:aU cx s a w ι)(vid sid:Nat){g:FuncId}{args:List AV}{V1:AV}{O O1:List (Nat×List AV)}{ar ar1:bE}(hc:dA cx.P g args O ar (fun v s1=>v=V1∧bW s1.o O1∧look 440009 s1.r=some ar1))
  (hg:ι vid=some (.pointer (some ⟨GS.g,0,none⟩)))
  (hrun:∃xs:Array Value,(execOp a.eval { aQ f p i with guard:=none }).run cx.P w=.ok (.enter g xs) w∧mC cx ι w (bI vid sid) args xs)
  (k:OT cx Q ks all (aN f p (i+1)) ((fS sid ar1 ((c8 (bP (bI vid sid)) O1 [(vid,440001)]).getD []) s).put (aQ f p i).dst ((db (bP (bI vid sid)) V1).getD .any)))
  (hO:dU (bI vid sid) s.o [(vid,440001)]=some O) (hr:look sid s.r=some ar) (hb:(c8 (bP (bI vid sid)) O1 [(vid,440001)]).isSome=true) (hv:(db (bP (bI vid sid)) V1).isSome=true)
  (hd:cq cx.n (aQ f p i).dst=true) (hok:gi s vid sid=true):wpList cx.P all (Kw cx.P Q ks) ({ aQ f p i with guard:=none }::aN f p (i+1)) a w:=by
 refine wpList_plain rfl fun K hK=>?_;obtain⟨o2,hb2⟩:=Option.isSome_iff_exists.1 hb;obtain⟨V2,hv2⟩:=Option.isSome_iff_exists.1 hv;rw[hb2,hv2]at k;simp only[Option.getD_some]at k;exact MW (o:={ aQ f p i with guard:=none }) hs vid sid hc hg hrun hO hr hb2 hv2 hd hok (fun x w' ι1 h=>hK _ _ (k _ _ _ h))
theorem Vz[GS]{a:Act}{w:World}{ι:Env}(hs:aU cx s a w ι)(vid sid nid oid:Nat){g:FuncId}{args:List AV}{V1:AV}{O O1:List (Nat×List AV)}{ar ar1 ar3:bE}(hc:dA cx.P g args O ar (fun v s1=>v=V1∧bW s1.o O1∧look 440009 s1.r=some ar1∧look oid s1.r=some ar3))(hone:∀(N:Nat→Prop) w ι x,Rel N w ι V1 x→∃y,ι oid=some y)
  (hg:ι vid=some (.pointer (some ⟨GS.g,0,none⟩)))
  (hrun:∃xs:Array Value,(execOp a.eval { aQ f p i with guard:=none }).run cx.P w=.ok (.enter g xs) w∧mC cx ι w (bI vid sid) args xs)
  (k:OT cx Q ks all (aN f p (i+1)) ((wG sid ar1 ((c8 (bP (bI vid sid)) O1 [(vid,440001)]).getD []) nid ar3 s).put (aQ f p i).dst ((nl ((oid,nid)::bP (bI vid sid)) V1).getD .any)))
  (hO:dU (bI vid sid) s.o [(vid,440001)]=some O) (hr:look sid s.r=some ar) (hb:(c8 (bP (bI vid sid)) O1 [(vid,440001)]).isSome=true) (hv:(nl ((oid,nid)::bP (bI vid sid)) V1).isSome=true)
  (hd:cq cx.n (aQ f p i).dst=true) (hok:gi s vid sid=true) (hI:q8 s vid sid nid oid=true):wpList cx.P all (Kw cx.P Q ks) ({ aQ f p i with guard:=none }::aN f p (i+1)) a w:=by
 refine wpList_plain rfl fun K hK=>?_;obtain⟨o2,hb2⟩:=Option.isSome_iff_exists.1 hb;obtain⟨V2,hv2⟩:=Option.isSome_iff_exists.1 hv;rw[hb2,hv2]at k;simp only[Option.getD_some]at k;simp only[gi,Bool.and_eq_true]at hok;obtain⟨k1,k2,k3,k4,k5⟩:=hok;have hnp:s.u.contains (cL sid)=false:=by
  cases hq:s.u.contains (cL sid) with
  | true=>rw[hq]at k3;cases k3
  | false=>rfl
 have hso:look sid s.o=none:=by
  cases hq:look sid s.o with
  | some _=>rw[hq]at k4;cases k4
  | none=>rfl
 have hor:∀p∈[(vid,440001)],look p.1 s.r=none:=fun p hp=>by
  rw[List.mem_singleton.1 hp];cases hq:look vid s.r with
  | some _=>rw[hq]at k5;cases k5
  | none=>rfl
 have hsv:b8 (bP (bI vid sid)) ι 440001=ι vid:=gI (dN k1 (by
  show look vid [(sid,440009),(vid,440001)]=some 440001;have:vid≠sid:=fun e=>by
   have h1:=(dN (id:=sid) (j:=440009) k1 (by simp[bI,look])).1;have hn':=k1;simp only[eQ,Bool.and_eq_true,List.all_eq_true]at hn';have h2:=(hn'.1 (vid,440001) (by simp[bI])).1;have h3:=d5 k1 (lI h2);rw[e]at h3;simp[bI,look]at h3
  simp[look,this])).1
 unfold Oper.wp;obtain⟨xs,hrc,hxl,hxr⟩:=hrun;rw[hrc,Oper.upon_enter];have hN:∀b,NN (fun b=>NN cx.M ι b∧∀i,bo (b8 (bP (bI vid sid)) ι i)≠some b) (b8 (bP (bI vid sid)) ι) b→NN cx.M ι b:=fun b hb=>by
  rcases hb with hb|⟨j,hb⟩
  ·exact hb.1
  ·cases he:b8 (bP (bI vid sid)) ι j with
   | none=>rw[he]at hb;cases hb
   | some y=>obtain⟨id,_,h2⟩:=gf he;exact .inr ⟨id,by rw[h2];rw[he]at hb;exact hb⟩
 have hargs:∀(i:Nat) (a:AV) (x:Value),args[i]?=some a→xs[i]?=some x→Rel (NN (fun b=>NN cx.M ι b∧∀i,bo (b8 (bP (bI vid sid)) ι i)≠some b) (b8 (bP (bI vid sid)) ι)) w (b8 (bP (bI vid sid)) ι) a x:=fun i v x hv hx =>
  hxr i v x hv hx _ _ hN (fun id j e=>gI (dN k1 e).1)
 have hal:∀p∈[(vid,440001)],∃y,b8 (bP (bI vid sid)) ι p.2=some y:=fun p hp=>by
  rw[List.mem_singleton.1 hp];exact⟨_,hsv.trans hg⟩
 refine (hc _ w _ xs (hsv.trans hg) (hs.hs.AQ rfl k1 hO hr k2) hxl hargs).mono ?_
 rintro e w' ⟨x,v,s1,ι1,rfl,⟨rfl,hO1,hr1,hr3⟩,hhs,hrx⟩
 obtain⟨v3,hv3⟩:=hone _ _ _ _ hrx;obtain⟨i1,i2,i3,i4,i5⟩:=T5 hI;obtain⟨g1,g2,g3⟩:=hs.hs.V3 rfl k1 hO hr hnp hso hor hal hhs hO1 hr1 hb2 i1 i2 i3 i4 i5 hv3 hr3;have hsim:aU cx (wG sid ar1 o2 nid ar3 s) a w' (ext (cp ι ι1 sid 440009) nid v3):=⟨g1,hs.dfr,hs.n,fun k v hk=>by
  obtain⟨u,hu,rfl⟩:=jV hk;obtain⟨y,hy,hr⟩:=hs.tmp k u hu;exact⟨y,hy,g2 hr⟩⟩
 exact hK _ _ (k _ _ _ (hsim.put (ep hd) (Zu (fun h e=>g3 h e) hrx hv2)))
theorem kh[GS][SG cx.w0]{g:FuncId}{args:List AV}{V1:AV}{O O1:List (Nat×List AV)}{ar ar1:bE}(hc:dA cx.P g args O ar (fun v s1=>v=V1∧bW s1.o O1∧look 440009 s1.r=some ar1))
  (k:OT cx Q ks all (aN f p (i+1)) ((fS 440009 ar1 ((c8 (bP (bI 440001 440009)) O1 [(440001,440001)]).getD []) s).put (aQ f p i).dst ((db (bP (bI 440001 440009)) V1).getD .any)))
  (hcl:co cx.P g=true:=by kernel_rfl) (hl:aN f p i=aQ f p i::aN f p (i+1):=by kernel_rfl) (hg:ci all s (aQ f p i)=true:=by kernel_rfl) (h1:iP s { aQ f p i with guard:=none } (bI 440001 440009)=some (g,args):=by kernel_rfl)
  (hO:dU (bI 440001 440009) s.o [(440001,440001)]=some O:=by kernel_rfl) (hr:look 440009 s.r=some ar:=by kernel_rfl) (hb:(c8 (bP (bI 440001 440009)) O1 [(440001,440001)]).isSome=true:=by kernel_rfl) (hv:(db (bP (bI 440001 440009)) V1).isSome=true:=by kernel_rfl)
  (hd:cq cx.n (aQ f p i).dst=true:=by kernel_rfl) (hok:gi s 440001 440009=true:=by kernel_rfl):OT cx Q ks all (aN f p i) s:=by
 rw[hl];exact dC _ hg fun a w ι hs=>CV hs 440001 440009 hc ((hs.hs.pin _ _ SG.pv).1) (wN hs h1 hcl) k hO hr hb hv hd hok
theorem JF[GS][SG cx.w0](nid:Nat){oid:Nat}{g:FuncId}{args:List AV}{V1:AV}{O O1:List (Nat×List AV)}{ar ar1 ar3:bE}(hc:dA cx.P g args O ar (fun v s1=>v=V1∧bW s1.o O1∧look 440009 s1.r=some ar1∧look oid s1.r=some ar3))(hone:∀(N:Nat→Prop) w ι x,Rel N w ι V1 x→∃y,ι oid=some y)
  (k:OT cx Q ks all (aN f p (i+1)) ((wG 440009 ar1 ((c8 (bP (bI 440001 440009)) O1 [(440001,440001)]).getD []) nid ar3 s).put (aQ f p i).dst ((nl ((oid,nid)::bP (bI 440001 440009)) V1).getD .any)))
  (hcl:co cx.P g=true:=by kernel_rfl) (hl:aN f p i=aQ f p i::aN f p (i+1):=by kernel_rfl) (hg:ci all s (aQ f p i)=true:=by kernel_rfl) (h1:iP s { aQ f p i with guard:=none } (bI 440001 440009)=some (g,args):=by kernel_rfl)
  (hO:dU (bI 440001 440009) s.o [(440001,440001)]=some O:=by kernel_rfl) (hr:look 440009 s.r=some ar:=by kernel_rfl) (hb:(c8 (bP (bI 440001 440009)) O1 [(440001,440001)]).isSome=true:=by kernel_rfl) (hv:(nl ((oid,nid)::bP (bI 440001 440009)) V1).isSome=true:=by kernel_rfl)
  (hd:cq cx.n (aQ f p i).dst=true:=by kernel_rfl) (hok:gi s 440001 440009=true:=by kernel_rfl) (hI:q8 s 440001 440009 nid oid=true:=by kernel_rfl):OT cx Q ks all (aN f p i) s:=by
 rw[hl];exact dC _ hg fun a w ι hs=>Vz hs 440001 440009 nid oid hc hone ((hs.hs.pin _ _ SG.pv).1) (wN hs h1 hcl) k hO hr hb hv hd hok hI
theorem I7[GS][SG cx.w0]{g:FuncId}{args:List AV}{V1:AV}{O O1:List (Nat×List AV)}{ar ar1:bE}(hc:dA cx.P g (.ptr 440001 0::args) O ar (fun v s1=>v=V1∧bW s1.o O1∧look 440009 s1.r=some ar1))
  (k:OT cx Q ks all (aN f p (i+1)) ((fS 440009 ar1 ((c8 (bP (bI 440001 440009)) O1 [(440001,440001)]).getD []) s).put (aQ f p i).dst ((db (bP (bI 440001 440009)) V1).getD .any)))
  (hcl:co cx.P g=true:=by kernel_rfl) (hl:aN f p i=aQ f p i::aN f p (i+1):=by kernel_rfl) (hg:ci all s (aQ f p i)=true:=by kernel_rfl) (h1:Fz s { aQ f p i with guard:=none } (bI 440001 440009)=some (fz g GS.g,args):=by kernel_rfl)
  (hO:dU (bI 440001 440009) s.o [(440001,440001)]=some O:=by kernel_rfl) (hr:look 440009 s.r=some ar:=by kernel_rfl) (hb:(c8 (bP (bI 440001 440009)) O1 [(440001,440001)]).isSome=true:=by kernel_rfl) (hv:(db (bP (bI 440001 440009)) V1).isSome=true:=by kernel_rfl)
  (hd:cq cx.n (aQ f p i).dst=true:=by kernel_rfl) (hok:gi s 440001 440009=true:=by kernel_rfl):OT cx Q ks all (aN f p i) s:=by
 rw[hl];exact dC _ hg fun a w ι hs=>CV hs 440001 440009 hc ((hs.hs.pin _ _ SG.pv).1) (Sw hs h1 hcl (by simp[bI,look]) ((hs.hs.pin _ _ SG.pv).1)) k hO hr hb hv hd hok
theorem KT(vid sid:Nat){g:FuncId}{args:List AV}{V1:AV}{O O1:List (Nat×List AV)}{ar ar1:bE}(hc:∀ [GS],dA cx.P g args O ar (fun v s1=>v=V1∧bW s1.o O1∧look 440009 s1.r=some ar1))
  (k:OT cx Q ks all (aN f p (i+1)) ((fS sid ar1 ((c8 (bP (bI vid sid)) O1 [(vid,440001)]).getD []) s).put (aQ f p i).dst ((db (bP (bI vid sid)) V1).getD .any)))
  (hcl:co cx.P g=true:=by kernel_rfl) (hl:aN f p i=aQ f p i::aN f p (i+1):=by kernel_rfl) (hg:ci all s (aQ f p i)=true:=by kernel_rfl) (h1:iP s { aQ f p i with guard:=none } (bI vid sid)=some (g,args):=by kernel_rfl)
  (hO:dU (bI vid sid) s.o [(vid,440001)]=some O:=by kernel_rfl) (hr:look sid s.r=some ar:=by kernel_rfl) (hb:(c8 (bP (bI vid sid)) O1 [(vid,440001)]).isSome=true:=by kernel_rfl) (hv:(db (bP (bI vid sid)) V1).isSome=true:=by kernel_rfl)
  (hd:cq cx.n (aQ f p i).dst=true:=by kernel_rfl) (hok:gi s vid sid=true:=by kernel_rfl) (hp:args.any (pB 440001)=true:=by kernel_rfl):OT cx Q ks all (aN f p i) s:=by
 rw[hl];refine dC _ hg fun a w ι hs=>?_;obtain⟨xs,q1,q2,q3⟩:=wN hs h1 hcl;have hn:=hok;simp only[gi,Bool.and_eq_true]at hn;have hN:∀b,NN (fun b=>NN cx.M ι b∧∀i,bo (b8 (bP (bI vid sid)) ι i)≠some b) (b8 (bP (bI vid sid)) ι) b→NN cx.M ι b:=fun b hb=>by
  rcases hb with hb|⟨j,hb⟩
  ·exact hb.1
  ·cases he:b8 (bP (bI vid sid)) ι j with
   | none=>rw[he]at hb;cases hb
   | some y=>obtain⟨id,_,h2⟩:=gf he;exact .inr ⟨id,by rw[h2];rw[he]at hb;exact hb⟩
 obtain⟨v,hv',hvp⟩:=List.any_eq_true.1 hp;obtain⟨q,hq⟩:=List.mem_iff_getElem?.1 hv';have hlt:q<xs.size:=by rw[←q2];exact(List.getElem?_eq_some_iff.1 hq).1
 obtain⟨y,hy⟩:=J4 hvp (q3 q v _ hq (Array.getElem?_eq_getElem hlt) _ _ hN (fun id j e=>gI (dN hn.1 e).1));obtain⟨id,e1,e2⟩:=gf hy;have e3:id=vid:=by
  have h2:look 440001 (bP (bI vid sid))=some vid:=rfl;rw[h2]at e1;injection e1 with e1;exact e1.symm
 subst e3;obtain⟨cs,hcs⟩:∃cs,look id s.o=some cs:=by
  unfold dU at hO;split at hO
  ·rename_i cs l h1 h2;exact⟨cs,h1⟩
  ·cases hO
 obtain⟨g0,_,_,e4,_,_⟩:=hs.hs.objs id cs hcs (by rw[e2];rfl)
 letI:GS:=⟨g0⟩
 exact CV hs id sid hc e4 ⟨xs,q1,q2,q3⟩ k hO hr hb hv hd hok
end
def iK(d:Option Tmp)(ar1:bE)(O1:List (Nat×List AV))(V1:AV)(s:AS):AS:=(fS 440009 ar1 ((c8 (bP (bI 440001 440009)) O1 [(440001,440001)]).getD []) s).put d ((db (bP (bI 440001 440009)) V1).getD .any)
def DP(s:AS):Bool:=match look 440001 s.o with
 | some (.ref i::_)=>Nat.beq i 440009
 | _=>false
theorem QQ[GS]{P:Program}{n:Nat}{ops:Array Oper}{s:AS}{o:Oper}{dl:Nat}{g:FuncId}{args:List AV}{V1:AV}{O O1:List (Nat×List AV)}{ar ar1:bE}(hc:dA P g args O ar (fun v s1=>v=V1∧bW s1.o O1∧look 440009 s1.r=some ar1))
  (hlk:look dl s.t=some (.lk 440001 (.pointer (some ⟨GS.g,0,none⟩)))) (hno:∀(j:Nat) (o':Oper),ops[j]?=some o'→o'.dst≠some dl) (h1:iP s o (bI 440001 440009)=some (g,args)) (hcl:co P g=true)
  (hO:dU (bI 440001 440009) s.o [(440001,440001)]=some O) (hr:look 440009 s.r=some ar) (hb:(c8 (bP (bI 440001 440009)) O1 [(440001,440001)]).isSome=true) (hv:(db (bP (bI 440001 440009)) V1).isSome=true)
  (hd:cq n o.dst=true) (hok:gi s 440001 440009=true) (hH:DP s=true):Ff P n ops s (iK o.dst ar1 O1 V1 s) o:=by
 refine⟨dl,_,hlk,hno,fun cx hP hn fl a w ι hs hg hop Kn Q hk=>?_⟩;subst hP;subst hn;obtain⟨o2,hb2⟩:=Option.isSome_iff_exists.1 hb;obtain⟨V2,hv2⟩:=Option.isSome_iff_exists.1 hv;have h1':iP (s.tt (cd fl s.t)) o (bI 440001 440009)=some (g,args):=by
  unfold iP at h1⊢;split at h1
  case h_2=>cases h1
  rename_i cl hcop;split at h1
  case h_2=>cases h1
  rename_i fo hcal;have e1:(s.tt (cd fl s.t)).ev fo=s.ev fo:=by
   cases fo with
   | tmp t =>
    show look t (cd _ _)=look t _;rw[dB,if_pos (hop (.tmp t) t (by simp[hcop,Op.operands,Call.operands,hcal]) rfl)]
   | const v=>rfl
   | func g=>rfl
   | global g=>rfl
  have e2:cN (s.tt (cd fl s.t)) cl.args.toList=cN s cl.args.toList:=kS (fun x hx=>by
   cases x with
   | tmp t =>
    show look t (cd _ _)=look t _;rw[dB,if_pos (hop (.tmp t) t (by simp[hcop,Op.operands,Call.operands,hcal];exact .inr (Array.mem_toList_iff.1 hx)) rfl)]
   | const v=>rfl
   | func g=>rfl
   | global g=>rfl)
  simp only[hcop,hcal,e1,e2];exact h1
 refine MW hs 440001 440009 hc hg (wN hs h1' hcl) hO hr hb2 hv2 hd hok (fun x w' ι1 hsim=>hk _ _ _ _ (fun id hne hid=>?_) ?_ ?_ ?_ (fun t v ht hl=>?_) hsim)
 ·unfold cp;by_cases e:id=440009
  ·exfalso;unfold DP at hH;split at hH
   case h_2=>cases hH
   rename_i q r hq;obtain⟨g0,T,vs,e1,e2,e3⟩:=hs.hs.objs 440001 _ hq (by rw[hg];rfl);have hlt:0<vs.toList.length:=by rw[←e3.len];simp
   have:=e3.rel 0 _ _ rfl (List.getElem?_eq_getElem hlt);rw[Nat.eq_of_beq_eq_true hH]at this;generalize vs.toList[0]=y at this;cases this with
   | ref _ _ A n c h=>rw[e,h]at hid;cases hid
  ·rw[if_neg e];exact hid
 ·unfold iK;rw[hb2,hv2];cases o.dst<;>rfl
 ·unfold iK;rw[hb2,hv2];cases o.dst<;>rfl
 ·unfold iK;rw[hb2,hv2];cases o.dst<;>rfl
 ·unfold iK at hl;rw[hb2,hv2]at hl;simp only[Option.getD_some]at hl;cases hdd:o.dst with
  | none =>
   rw[hdd]at hl ht;rcases ht with ht|ht
   ·show look t (cS _ (cd _ _))=_;rw[mm,dB,if_pos ht];exact hl
   ·cases ht
  | some d =>
   rw[hdd]at hl ht;simp only[AS.put,fS,ce]at hl⊢;by_cases e:t=d
   ·rw[if_pos e]at hl⊢;exact hl
   ·rw[if_neg e]at hl⊢;rcases ht with ht|ht
    ·show look t (cS _ (cd _ _))=_;rw[mm,dB,if_pos ht];exact hl
    ·injection ht with ht;exact(e ht).elim
section
variable{P:Program}{n:Nat}{s0:AS}{all:Array Oper}{K:Nat}{σs:List AS}{o:Oper}
theorem Ce[GS](m dl:Nat){g:FuncId}{args:List AV}{V1:AV}{O O1:List (Nat×List AV)}{ar ar1:bE}(hc:dA P g args O ar (fun v s1=>v=V1∧bW s1.o O1∧look 440009 s1.r=some ar1))
  (hcl:co P g=true:=by kernel_rfl) (he:iK o.dst ar1 O1 V1 (nth σs m)=nth σs (m+1):=by kernel_rfl) (hlk:look dl (nth σs m).t=some (.lk 440001 (.pointer (some ⟨GS.g,0,none⟩))):=by kernel_rfl) (hno:vO dl all.toList=true:=by kernel_rfl) (hgd:o.guard.isNone=true:=by kernel_rfl)
  (h1:iP (nth σs m) o (bI 440001 440009)=some (g,args):=by kernel_rfl)
  (hO:dU (bI 440001 440009) (nth σs m).o [(440001,440001)]=some O:=by kernel_rfl) (hr:look 440009 (nth σs m).r=some ar:=by kernel_rfl) (hb:(c8 (bP (bI 440001 440009)) O1 [(440001,440001)]).isSome=true:=by kernel_rfl) (hv:(db (bP (bI 440001 440009)) V1).isSome=true:=by kernel_rfl)
  (hd:cq n o.dst=true:=by kernel_rfl) (hok:gi (nth σs m) 440001 440009=true:=by kernel_rfl) (hH:DP (nth σs m)=true:=by kernel_rfl):dT P n s0 all K σs o (.s (m+1)):=by
 have h:=QQ (ops:=all) hc hlk (fun j o' hj=>Iy hno o' (Array.mem_toList_iff.2 (Array.mem_of_getElem? hj))) h1 hcl hO hr hb hv hd hok hH;rw[he]at h;exact⟨by simpa using hgd,.inr h⟩
end
end Go.Proofs.YtocgkfoifehcbaaGreat

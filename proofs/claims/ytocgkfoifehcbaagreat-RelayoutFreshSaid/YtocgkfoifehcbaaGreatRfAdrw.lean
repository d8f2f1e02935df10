/- A region that draws its order, on abstract states: its values are those of the text's order, if each operation yields its value at every stage of the stores at which it may come. No program in sight. -/
import Derived.Test.YtocgkfoifehcbaaGreatRfAlx
namespace Go.Proofs.YtocgkfoifehcbaaGreat
set_option linter.all false
open Go.RowKit
inductive Tag where
 | s (m:Nat)
 | v (lo n:Nat)
 | c (lo n:Nat)
 | a (lo n:Nat)
 | off (lo n:Nat)
 | o (lo n:Nat)
def Tag.ew:Tag→Bool
 | .s _=>false
 | _=>true
def Tag.eT:Tag→Nat×Nat
 | .s m=>(m,0)
 | .v lo n|.c lo n|.a lo n|.off lo n|.o lo n=>(lo,n)
def Tag.DV:Tag→Bool
 | .a _ _|.o _ _=>true
 | _=>false
theorem Tag.K8{t:Tag}(h:t.DV=true):t.ew=true:=by cases t<;>first|rfl|cases h
def ct(o:Oper):List Nat:=(o.after.toList.filter (Region.binds .any)).map (·.on)
theorem lJ{o:Oper}{j:Nat}:j∈ct o↔∃e∈o.after,Region.binds .any e=true∧e.on=j:=by
 simp[ct,List.mem_map,List.mem_filter,Array.mem_toList_iff];constructor
 ·rintro ⟨e,⟨h1,h2⟩,h3⟩;exact⟨e,h1,h2,h3⟩
 ·rintro ⟨e,h1,h2,h3⟩;exact⟨e,⟨h1,h2⟩,h3⟩
structure Stat(ops:Array Oper)(tags:List Tag)(K:Nat):Prop where
 len:tags.length≤ops.size
 lex:∀(i:Nat) (o:Oper) (tg:Tag),ops[i]?=some o→tags[i]?=some tg→∀j∈ct o,j<i
 dst:∀(i:Nat) (o:Oper) (tg:Tag),ops[i]?=some o→tags[i]?=some tg→tg.ew=true→∃(d:Nat),o.dst=some d∧∀(j:Nat) (oj:Oper),ops[j]?=some oj→j≠i→oj.dst≠some d
 tG:∀(i:Nat) (o:Oper) (tg:Tag) (t:Nat),ops[i]?=some o→tags[i]?=some tg→t∈o.looksAt ops→∀(j:Nat) (oj:Oper) (tj:Tag),ops[j]?=some oj→tags[j]?=some tj→tj.ew=true→oj.dst=some t→j∈ct o
 chain:∀(i:Nat) (o:Oper) (m:Nat),ops[i]?=some o→tags[i]?=some (Tag.s m)→1≤m∧m≤K∧(2≤m→∃j∈ct o,tags[j]?=some (Tag.s (m-1)))∧∀(j:Nat),tags[j]?=some (Tag.s m)→j=i
 last:K=0∨∃(i:Nat),tags[i]?=some (Tag.s K)
 lo:∀(i:Nat) (o:Oper) (tg:Tag),ops[i]?=some o→tags[i]?=some tg→tg.ew=true→tg.eT.1=0∨∃j∈ct o,tags[j]?=some (Tag.s tg.eT.1)
 hi:∀(i:Nat) (tg:Tag),tags[i]?=some tg→tg.ew=true→K<tg.eT.1+tg.eT.2∨∃(j:Nat) (oj:Oper),ops[j]?=some oj∧tags[j]?=some (Tag.s (tg.eT.1+tg.eT.2))∧i∈ct oj
def sK:Tag→Nat→Bool
 | .s m,k=>m == k
 | _,_=>false
def kZ(ops:Array Oper)(tags:List Tag)(K i:Nat)(o:Oper)(tg:Tag):Bool :=
 (ct o).all (fun j=>decide (j<i)) &&
 (!tg.ew||(match o.dst with|some d=>(List.range ops.size).all fun j=>j == i||(match ops[j]? with|some oj=>oj.dst != some d|none=>true)|none=>false)) &&
 ((o.looksAt ops).all fun t=>(List.range ops.size).all fun j=>match ops[j]?,tags[j]? with
  | some oj,some tj=>!tj.ew||oj.dst != some t||(ct o).contains j
  | _,_=>true) &&
 (match tg with
  | .s m=>decide (1≤m)&&decide (m≤K)&&(decide (m<2)||(ct o).any fun j=>match tags[j]? with|some tj=>sK tj (m-1)|none=>false) &&
   (List.range ops.size).all fun j=>j == i||(match tags[j]? with|some tj=>!sK tj m|none=>true)
  | _=>true) &&
 (!tg.ew||tg.eT.1 == 0||(ct o).any fun j=>match tags[j]? with|some tj=>sK tj tg.eT.1|none=>false) &&
 (!tg.ew||decide (K<tg.eT.1+tg.eT.2)||(List.range ops.size).any fun j=>match ops[j]?,tags[j]? with
  | some oj,some tj=>sK tj (tg.eT.1+tg.eT.2)&&(ct oj).contains i
  | _,_=>false)
def nZ(ops:Array Oper)(tags:List Tag)(K m:Nat):Bool :=
 (tags.length == m&&Nat.ble m ops.size)&&(List.range m).all fun i=>match ops[i]?,tags[i]? with|some o,some tg=>kZ ops tags K i o tg|_,_=>false
def ql(ops:Array Oper)(tags:List Tag)(K:Nat):Bool:=nZ ops tags K ops.size
def jp(tags:List Tag)(K:Nat):Bool:=K == 0||tags.any (sK · K)
theorem vU{t:Tag}{m:Nat}(h:sK t m=true):t=.s m:=by
 cases t<;>simp[sK]at h;subst h;rfl
theorem rN{ops:Array Oper}{tags:List Tag}{K m:Nat}(h:nZ ops tags K m=true)(h2:jp tags K=true):Stat ops tags K∧tags.length=m∧m≤ops.size:=by
 unfold nZ at h;simp only[Bool.and_eq_true,beq_iff_eq,List.all_eq_true,List.mem_range]at h;obtain⟨⟨hl,hm⟩,h⟩:=h;have hm:=Nat.le_of_ble_eq_true hm;refine⟨?_,hl,hm⟩;have key0:∀i o tg,ops[i]?=some o→tags[i]?=some tg→kZ ops tags K i o tg=true:=fun i o tg ho ht=>by
  have hi:i<m:=by rw[←hl];exact(List.getElem?_eq_some_iff.1 ht).1
  have:=h i hi;simpa only[ho,ht]using this
 have opOf:∀i tg,tags[i]?=some tg→∃o,ops[i]?=some o:=fun i tg ht=>by
  have hi:i<ops.size:=by have:=(List.getElem?_eq_some_iff.1 ht).1;omega
  exact⟨_,Array.getElem?_eq_getElem hi⟩
 have lt:∀j tg,tags[j]?=some tg→j<ops.size:=fun j tg ht=>by have:=(List.getElem?_eq_some_iff.1 ht).1;omega
 refine⟨by omega,fun i o tg ho ht j hj=>?_,fun i o tg ho ht hr=>?_,fun i o tg t ho ht htm j oj tj hoj htj hrj hd=>?_,fun i o m ho ht=>?_,?_,fun i o tg ho ht hr=>?_,fun i tg ht hr=>?_⟩
 ·have hk:=key0 i o tg ho ht;unfold kZ at hk;simp only[Bool.and_eq_true]at hk;have:=hk.1.1.1.1.1;have:=List.all_eq_true.1 this j hj;simpa using this
 ·have hk:=key0 i o tg ho ht;unfold kZ at hk;simp only[Bool.and_eq_true]at hk;have:=hk.1.1.1.1.2;simp only[hr,Bool.not_true,Bool.false_or]at this;cases hd:o.dst with
  | none=>rw[hd]at this;cases this
  | some d =>
   rw[hd]at this;refine⟨d,rfl,fun j oj hoj hne=>?_⟩;have hj:j<ops.size:=(Array.getElem?_eq_some_iff.1 hoj).1;have h3:=List.all_eq_true.1 this j (List.mem_range.2 hj);simp only[hoj,Bool.or_eq_true,beq_iff_eq,bne_iff_ne]at h3;rcases h3 with h3|h3
   ·exact(hne h3).elim
   ·exact h3
 ·have hk:=key0 i o tg ho ht;unfold kZ at hk;simp only[Bool.and_eq_true]at hk;have h3:=hk.1.1.1.2;have h4:=List.all_eq_true.1 h3 t htm;have h5:=List.all_eq_true.1 h4 j (List.mem_range.2 (lt j tj htj));simp only[hoj,htj,hrj,hd,Bool.not_true,Bool.false_or,Bool.or_eq_true]at h5;rcases h5 with h5|h5
  ·simp at h5
  ·simpa using h5
 ·have hk:=key0 i o _ ho ht;unfold kZ at hk;simp only[Bool.and_eq_true]at hk;have h3:=hk.1.1.2;simp only[Bool.and_eq_true,decide_eq_true_eq,Bool.or_eq_true]at h3;obtain⟨⟨⟨h4,h5⟩,h6⟩,h7⟩:=h3;refine⟨h4,h5,fun h2m=>?_,fun j htj=>?_⟩
  ·rcases h6 with h6|h6
   ·omega
   ·obtain⟨j,hj,hs⟩:=List.any_eq_true.1 h6;cases htj:tags[j]? with
    | none=>rw[htj]at hs;cases hs
    | some tj=>rw[htj]at hs;exact⟨j,hj,by rw[htj,vU hs]⟩
  ·have h8:=List.all_eq_true.1 h7 j (List.mem_range.2 (lt j _ htj));rw[htj]at h8;simpa[sK]using h8
 ·unfold jp at h2;simp only[Bool.or_eq_true,beq_iff_eq]at h2;rcases h2 with h2|h2
  ·exact .inl h2
  ·obtain⟨t,ht,hs⟩:=List.any_eq_true.1 h2;obtain⟨i,hi,rfl⟩:=List.mem_iff_getElem.1 ht;exact .inr ⟨i,by rw[List.getElem?_eq_getElem hi,vU hs]⟩
 ·have hk:=key0 i o tg ho ht;unfold kZ at hk;simp only[Bool.and_eq_true]at hk;have h3:=hk.1.2;simp only[hr,Bool.not_true,Bool.false_or,Bool.or_eq_true,beq_iff_eq]at h3;rcases h3 with h3|h3
  ·exact .inl h3
  ·obtain⟨j,hj,hs⟩:=List.any_eq_true.1 h3;cases htj:tags[j]? with
   | none=>rw[htj]at hs;cases hs
   | some tj=>rw[htj]at hs;exact .inr ⟨j,hj,by rw[htj,vU hs]⟩
 ·obtain⟨o,ho⟩:=opOf i tg ht;have hk:=key0 i o tg ho ht;unfold kZ at hk;simp only[Bool.and_eq_true]at hk;have h3:=hk.2;simp only[hr,Bool.not_true,Bool.false_or,Bool.or_eq_true,decide_eq_true_eq]at h3;rcases h3 with h3|h3
  ·exact .inl h3
  ·obtain⟨j,hj,hs⟩:=List.any_eq_true.1 h3;cases hoj:ops[j]? with
   | none=>simp[hoj]at hs
   | some oj =>
    cases htj:tags[j]? with
    | none=>simp[hoj,htj]at hs
    | some tj =>
     simp only[hoj,htj,Bool.and_eq_true]at hs;exact .inr ⟨j,oj,hoj,by rw[htj,vU hs.1],by simpa using hs.2⟩
theorem Qi{ops:Array Oper}{tags:List Tag}{K:Nat}(h:ql ops tags K=true)(h2:jp tags K=true):Stat ops tags K:=(rN h h2).1
theorem Wc{ops:Array Oper}{tags:List Tag}{K:Nat}(h:ql ops tags K=true)(h2:jp tags K=true):tags.length=ops.size:=(rN h h2).2.1
def fL(all:Array Oper)(s:AS)(on:Bool):Option (Nat×Bool)→Prop
 | none=>on=true
 | some (j,b)=>match all[j]? with
  | some og=>match og.dst with
   | some d=>look d s.t=some (.bool (if on=true then b else !b))∨(on=false∧look d s.t=some (.tup []))
   | none=>False
  | none=>False
def xz(P:Program)(n:Nat)(s:AS)(o:Oper):Prop :=
 match o.op with
 | .call c=>match c.callee with
  | .value fo=>∃f aP l V d,s.ev fo=some (.fn f aP)∧cG s c.args.toList=some l∧o.dst=some d∧look d s.t=some V∧d<n∧db [] l=true∧V.cL []=true∧cf P f=true∧aU P f (l.map fP++aP) (fun v _=>v=V)
  | _=>False
 | _=>False
def Bw(P:Program)(n:Nat)(s:AS)(o:Oper):Prop :=
 ∃f args l V d,rS s o=some (f,args,l)∧kC s l∧o.dst=some d∧look d s.t=some V∧d<n∧V.Af=true∧cf P f=true∧aU P f args (fun v _=>v=V)
def AR(P:Program)(n:Nat)(ops:Array Oper)(s:AS)(o:Oper):Prop :=
 ∃d dl tid x b,o.dst=some d∧bE P n s o=some (s.put (some d) (.vv x))∧look d s.t=some (.ref tid)∧dl≠d∧look dl s.t=some (.lk tid x)∧look tid s.r=some b∧∀(j:Nat) (o':Oper),ops[j]?=some o'→o'.dst≠some dl
def Gy(P:Program)(n:Nat)(ops:Array Oper)(s:AS)(o:Oper):Prop:=xz P n s o∨(Bw P n s o∨AR P n ops s o)
def qu(P:Program)(n:Nat)(s:AS)(o:Oper)(d:Nat):Prop :=
 match o.op with
 | .call c=>match c.callee with
  | .value fo=>∃f aP l V id ar,id<TG∧s.ev fo=some (.fn f aP)∧cG s c.args.toList=some l∧db [] l=true∧cf P f=true∧aU P f (l.map fP++aP) (fun v s1=>v=V∧look id s1.r=some ar) ∧
   (∀(N:Nat→Prop) w ι x,Rel N w ι V x→∃y,ι id=some y)∧look d s.t=some (V.eh id d)∧look d s.r=some ar∧look d s.o=none∧has s.u d=true
  | _=>False
 | .buildSlice T n' parts=>n'=0∧parts = #[]∧∃e sz,P.underlying T=some (.slice e)∧bU P e=some sz∧look d s.t=some (.ref d)∧look d s.r=some ⟨e,sz,[]⟩∧look d s.o=none∧has s.u d=true
 | .makeSlice T x y=>∃kd kd' m e sz bytes zc,s.ev x=some (.int kd m)∧s.ev y=some (.int kd' m)∧gZ P T=some (e,sz,bytes)∧eg P e=some zc∧xd m bytes=true∧look d s.t=some (.ref d)∧look d s.r=some ⟨e,sz,List.replicate m.toNat (zc.map fK)⟩∧look d s.o=none∧has s.u d=true
 | _=>False
def xL(P:Program)(n:Nat)(ops:Array Oper)(s s':AS)(o:Oper):Prop :=
 ∃dl v0,look dl s.t=some (.lk 440001 v0)∧(∀(j:Nat) (o':Oper),ops[j]?=some o'→o'.dst≠some dl) ∧
  ∀(cx:Cx),cx.P=P→cx.n=n→∀(fl:Nat→Bool) (a:Act) (w:World) (ι:Env),aN cx (s.tt (bS fl s.t)) a w ι→ι 440001=some v0→(∀x t,x∈o.op.operands.toList→x=.tmp t→fl t=true) →
   ∀(Kn:Act→World→Prop) (Q:Exit→Act→World→Prop),(∀a' w' ι' s2,(∀id,some id≠o.dst→ι id=none→ι' id=none)→s2.o=s'.o→s2.r=s'.r→s2.u=s'.u →
    (∀t v,fl t=true∨some t=o.dst→look t s'.t=some v→look t s2.t=some v)→aN cx s2 a' w' ι'→Kn a' w')→o.wp P a w Kn Q
structure iH(P:Program)(n:Nat)(s0:AS)(ops:Array Oper)(tags:List Tag)(K:Nat)(σ:Nat→AS):Prop where
 s:∀(i:Nat) (o:Oper) (m:Nat),ops[i]?=some o→tags[i]?=some (Tag.s (m+1))→o.guard=none∧(bE P n (σ m) o=some (σ (m+1))∨xL P n ops (σ m) (σ (m+1)) o)
 v:∀(i:Nat) (o:Oper) (lo:Nat) (k:Nat),ops[i]?=some o→tags[i]?=some (Tag.v lo k)→∀(j:Nat),lo≤j→j<lo+k→fL ops (σ j) true o.guard∧bE P n (σ j) o=some (σ j)
 c:∀(i:Nat) (o:Oper) (lo:Nat) (k:Nat),ops[i]?=some o→tags[i]?=some (Tag.c lo k)→∀(j:Nat),lo≤j→j<lo+k→fL ops (σ j) true o.guard∧Gy P n ops (σ j) o
 a:∀(i:Nat) (o:Oper) (lo:Nat) (k:Nat),ops[i]?=some o→tags[i]?=some (Tag.a lo k)→∃(T:TypeId) (d:Nat) (cs:List AV),o.guard=none∧o.op=.alloc T∧o.dst=some d∧d<min n 450000∧has s0.u d=false∧eg P T=some cs ∧
  ∀(j:Nat),lo≤j→j<lo+k→look d (σ j).o=some cs∧look d (σ j).r=none∧look d (σ j).t=some (.ptr d 0)∧has (σ j).u d=true
 off:∀(i:Nat) (o:Oper) (lo:Nat) (k:Nat),ops[i]?=some o→tags[i]?=some (Tag.off lo k)→(∀(j:Nat),lo≤j→j<lo+k→fL ops (σ j) false o.guard∧o.guard≠none)∧∀(d:Nat) (j:Nat),o.dst=some d→j≤K→look d (σ j).t=none∨(look d (σ j).t=some (.tup [])∧d<n)
 o:∀(i:Nat) (o:Oper) (lo:Nat) (k:Nat),ops[i]?=some o→tags[i]?=some (Tag.o lo k)→∃(d:Nat),o.dst=some d∧d<n∧has s0.u d=false∧∀(j:Nat),lo≤j→j<lo+k→fL ops (σ j) true o.guard∧qu P n (σ j) o d
 i1:∀(id:Nat) (a:br),look id (σ 0).r=some a→look id s0.r=some a∨has s0.u id=false
 i6:∀(id:Nat) (a:br),look id (σ 0).r=some a→has (σ 0).u id=true∨look id s0.r=some a
 i2:∀(id:Nat) (cs:List AV),look id (σ 0).o=some cs→look id s0.o=some cs∨has s0.u id=false
 i3:∀(id:Nat),s0.u.contains id=true→(σ 0).u.contains id=true
 i4:∀(id:Nat) (cs:List AV),look id (σ 0).o=some cs→has (σ 0).u id=true∨look id s0.o=some cs
 i5:∀(t:Nat) (v:AV),look t (σ 0).t=some v→(∃(i:Nat) (o:Oper) (tg:Tag),ops[i]?=some o∧tags[i]?=some tg∧tg.ew=true∧o.dst=some t)∨look t s0.t=some v
theorem HS.E6{M:Nat→Prop}{w0:aE}{w:World}{ι:Env}{s:AS}(h:HS M w0 w ι s){d:Nat}(hno:ι d=none)(hdu:has s.u d=true)(ho:look d s.o=none){e:TypeId}{sz n:Nat}{l:List (List AV)}{vs:List Value}(hr:look d s.r=some ⟨e,sz,l⟩)(hn:l.length=n)(hm:n≤maxLen)(hvs:vs.length=n*sz)(hz:∀c∈l,c.length=sz)(h1:∀v∈vs,v.oneCell'=true)
  (hc:∀(j:Nat) (c:List AV),l[j]?=some c→∀(i:Nat) (x:AV),c[i]?=some x→∃v,vs[j*sz+i]?=some v∧Rel (NN M ι) w bn x v) :
  HS M w0 (w.alloc (.cells vs.toArray e)) (ext ι d (.slice (some ⟨w.heap.size,0,none⟩) n n)) s:=by
 have hw0:w0.w.heap.size≤w.heap.size:=h.below.size;have bI:∀b,b<w.heap.size→¬ NN M ι b→(w.alloc (.cells vs.toArray e)).heap[b]?=w.heap[b]?:=fun b hb _=>Below.heap_alloc _ _ _ hb;have hN:∀b,b<w.heap.size→NN M (ext ι d (.slice (some ⟨w.heap.size,0,none⟩) n n)) b→NN M ι b:=fun b hb hh=>by
  rcases er hh with hh|hh
  ·exact hh
  ·injection hh with hh;simp only[]at hh;omega
 have hk:=dQ hno (.slice (some ⟨w.heap.size,0,none⟩) n n);refine⟨h.below.alloc hw0 _,h.old,fun i y hy=>?_,fun i g hg=>?_,fun i i' g hg hg'=>?_,h.ko,h.kr,fun i cs hi hp=>?_,fun i a hi hp=>?_,fun i y hp=>⟨hk i y (h.pin i y hp).1,(h.pin i y hp).2⟩⟩
 ·by_cases ei:i=d
  ·subst ei;exact hdu
  ·rw[bq _ _ ei]at hy;exact h.use i y hy
 ·by_cases ei:i=d
  ·subst ei;rw[cr]at hg;injection hg with hg;simp only[]at hg;subst hg;exact⟨.inl hw0,by simp⟩
  ·rw[bq _ _ ei]at hg;exact⟨(h.own i g hg).1,by have:=(h.own i g hg).2;simp;omega⟩
 ·by_cases ei:i=d
  ·by_cases ei':i'=d
   ·omega
   ·subst ei;rw[cr]at hg;rw[bq _ _ ei']at hg';injection hg with hg;simp only[]at hg
    have:=(h.own i' g hg').2;omega
  ·by_cases ei':i'=d
   ·subst ei';rw[cr]at hg';rw[bq _ _ ei]at hg;injection hg' with hg';simp only[]at hg'
    have:=(h.own i g hg).2;omega
   ·rw[bq _ _ ei]at hg;rw[bq _ _ ei']at hg';exact h.inj i i' g hg hg'
 ·have ei:i≠d:=by rintro rfl;rw[ho]at hi;cases hi
  rw[bq _ _ ei]at hp;obtain⟨g',T',vs1,f1,f2,f3⟩:=h.objs i cs hi hp;have hlt:=(h.own i g' (by rw[f1];rfl)).2;exact⟨g',T',vs1,(bq _ _ ei).trans f1,(Below.heap_alloc _ _ _ hlt).trans f2,f3.mono (by simp) hN bI hk⟩
 ·by_cases ei:i=d
  ·subst ei;rw[hr]at hi;injection hi with hi;subst hi
   refine⟨_,vs,cr _ _ _,⟨by simp[hvs,hn],.inr ⟨w.heap.size,n,vs.toArray,by simp[hn],Nat.zero_le _,heap_alloc_new w _,by simp[hn],hm,by simpa using hvs,by simp[hn,← hvs]⟩⟩,hz,h1,fun j c hj k x hk'=>?_⟩;obtain⟨v,hv,hr⟩:=hc j c hj k x hk';exact⟨v,hv,.inl (hr.mono (by simp) hN bI (fun _ _ h=>h))⟩
  ·rw[bq _ _ ei]at hp;obtain⟨v,xs,g1,g2,g3,g4,g5⟩:=h.arrs i a hi hp;refine⟨v,xs,(bq _ _ ei).trans g1,eo g2 (fun g' hg'=>Below.heap_alloc _ _ _ (h.own i g' (by rw[g1];exact hg')).2),g3,g4,fun j el hj k c hk'=>?_⟩;obtain⟨x,hx,hr⟩:=g5 j el hj k c hk';exact⟨x,hx,hr.mono (by simp) hN bI (fun r h'=>hk _ _ h') (fun r h'=>Below.heap_alloc _ _ _ (h.iJ h')) (fun h=>h)⟩
theorem HS.Mr{M:Nat→Prop}{w0:aE}{w:World}{ι:Env}{s:AS}(h:HS M w0 w ι s){d:Nat}(hn:ι d=none)(hdu:has s.u d=true)(hr:look d s.r=none){T:TypeId}(hT:tyName d T){cs:List AV}{vs:List Value}(hd:look d s.o=some cs)(hc:Cells (NN M ι) w ι cs vs):
  HS M w0 (w.alloc (.cells vs.toArray T)) (ext ι d (.pointer (some ⟨w.heap.size,0,none⟩))) s:=by
 have hw0:w0.w.heap.size≤w.heap.size:=h.below.size;have bI:∀b,b<w.heap.size→¬ NN M ι b→(w.alloc (.cells vs.toArray T)).heap[b]?=w.heap[b]?:=fun b hb _=>Below.heap_alloc _ _ _ hb;have hN:∀b,b<w.heap.size→NN M (ext ι d (.pointer (some ⟨w.heap.size,0,none⟩))) b→NN M ι b:=fun b hb hh=>by
  rcases er hh with hh|hh
  ·exact hh
  ·injection hh with hh;simp only[]at hh;omega
 have hk:=dQ hn (.pointer (some ⟨w.heap.size,0,none⟩));refine⟨h.below.alloc hw0 _,h.old,fun i y hy=>?_,fun i g hg=>?_,fun i i' g hg hg'=>?_,h.ko,h.kr,fun i cs1 hi hp=>?_,fun i a hi hp=>?_,fun i y hp=>⟨hk i y (h.pin i y hp).1,(h.pin i y hp).2⟩⟩
 ·by_cases e:i=d
  ·subst e;exact hdu
  ·rw[bq _ _ e]at hy;exact h.use i y hy
 ·by_cases e:i=d
  ·subst e;rw[cr]at hg;injection hg with hg;simp only[]at hg;subst hg;exact⟨.inl hw0,by simp⟩
  ·rw[bq _ _ e]at hg;exact⟨(h.own i g hg).1,by have:=(h.own i g hg).2;simp;omega⟩
 ·by_cases e:i=d
  ·by_cases e':i'=d
   ·omega
   ·subst e;rw[cr]at hg;rw[bq _ _ e']at hg';injection hg with hg;simp only[]at hg
    have:=(h.own i' g hg').2;omega
  ·by_cases e':i'=d
   ·subst e';rw[cr]at hg';rw[bq _ _ e]at hg;injection hg' with hg';simp only[]at hg'
    have:=(h.own i g hg).2;omega
   ·rw[bq _ _ e]at hg;rw[bq _ _ e']at hg';exact h.inj i i' g hg hg'
 ·by_cases e:i=d
  ·subst e;rw[hd]at hi;injection hi with hi;subst hi
   exact⟨w.heap.size,⟨T,hT⟩,vs.toArray,cr _ _ _,heap_alloc_new w _,by simpa using hc.mono (by simp) hN bI hk⟩
  ·rw[bq _ _ e]at hp;obtain⟨g',T',vs1,h1,h2,h3⟩:=h.objs i cs1 hi hp;have hlt:=(h.own i g' (by rw[h1];rfl)).2;exact⟨g',T',vs1,(bq _ _ e).trans h1,(Below.heap_alloc _ _ _ hlt).trans h2,h3.mono (by simp) hN bI hk⟩
 ·by_cases e:i=d
  ·subst e;rw[hr]at hi;cases hi
  ·rw[bq _ _ e]at hp;obtain⟨v,xs,h1,h2,h3,h4,h5⟩:=h.arrs i a hi hp;refine⟨v,xs,(bq _ _ e).trans h1,eo h2 (fun g' hg'=>Below.heap_alloc _ _ _ (h.own i g' (by rw[h1];exact hg')).2),h3,h4,fun j el hj k c hk'=>?_⟩;obtain⟨x,hx,hr⟩:=h5 j el hj k c hk';exact⟨x,hx,hr.mono (by simp) hN bI (fun r h'=>hk _ _ h') (fun r h'=>Below.heap_alloc _ _ _ (h.iJ h')) (fun h=>h)⟩
theorem HS.sa{M:Nat→Prop}{w0:aE}{w:World}{ι:Env}{s s':AS}(h:HS M w0 w ι s)(h1:s.o=s'.o)(h2:s.r=s'.r)(h3:s.u=s'.u):HS M w0 w ι s':=by
 obtain⟨a1,a2,a3,a4,a5,a6,a7,a8,a9,a10⟩:=h;rw[h1]at a6 a8;rw[h2]at a7 a9;rw[h3]at a3 a6 a7 a10;exact⟨a1,a2,a3,a4,a5,a6,a7,a8,a9,a10⟩
structure cB(cx:Cx)(ops:Array Oper)(tags:List Tag)(K:Nat)(σ:Nat→AS)(listed:Array Bool)(a:Act)(w:World)(k:Nat)(ι:Env):Prop where
 sz:listed.size=ops.size
 cl:∀(i:Nat) (o:Oper),ops[i]?=some o→listed[i]?=some true→∀j∈ct o,listed[j]?=some true
 kK:k≤K
 wr:∀(i:Nat) (m:Nat),tags[i]?=some (Tag.s m)→(listed[i]?=some true↔m≤k)
 hs:HS cx.M cx.w0 w ι (σ k)
 al:∀(i:Nat) (o:Oper) (tg:Tag) (d:Nat),ops[i]?=some o→tags[i]?=some tg→tg.DV=true→o.dst=some d→listed[i]?≠some true→ι d=none
 dfr:a.defers=[]
 n:a.tmps.size=cx.n
 tmp:∀(t:Nat) (v:AV),look t (σ k).t=some v→(∀(i:Nat) (o:Oper) (tg:Tag),ops[i]?=some o→tags[i]?=some tg→tg.ew=true→o.dst=some t→listed[i]?=some true)→∃x,a.tmps[t]?=some x∧Rel (NN cx.M ι) w ι v x
section
variable{cx:Cx}{ops:Array Oper}{tags:List Tag}{K:Nat}{σ:Nat→AS}{listed:Array Bool}{a:Act}{w:World}{k:Nat}{ι:Env}{s0:AS}
theorem cV{i j:Nat}(hsz:i<listed.size):(listed.setIfInBounds i true)[j]?=some true↔j=i∨listed[j]?=some true:=by
 by_cases e:j=i
 ·subst e;simp[hsz]
 ·rw[Array.getElem?_setIfInBounds_ne (fun h=>e h.symm)];simp[e]
theorem cB.pu(st:Stat ops tags K)(h:cB cx ops tags K σ listed a w k ι){i:Nat}{o:Oper}{tg:Tag}(ho:ops[i]?=some o)(ht:tags[i]?=some tg)(hr:tg.ew=true)(hnl:listed[i]?≠some true)(hed:∀j∈ct o,listed[j]?=some true):
  tg.eT.1≤k∧k<tg.eT.1+tg.eT.2:=by
 constructor
 ·rcases st.lo i o tg ho ht hr with h0|⟨j,hj,hs⟩
  ·omega
  ·exact(h.wr j _ hs).1 (hed j hj)
 ·rcases st.hi i tg ht hr with h0|⟨j,oj,hoj,hs,hi⟩
  ·have:=h.kK;omega
  ·have hnot:¬ (tg.eT.1+tg.eT.2≤k):=fun hle=>by
    have hj:=(h.wr j _ hs).2 hle;exact hnl (h.cl j oj hoj hj i hi)
   omega
def H4(ops:Array Oper)(tags:List Tag)(listed:Array Bool)(t:Nat):Prop:=∀(i:Nat) (o:Oper) (tg:Tag),ops[i]?=some o→tags[i]?=some tg→tg.ew=true→o.dst=some t→listed[i]?=some true
open Classical in
noncomputable def dE(ops:Array Oper)(tags:List Tag)(listed:Array Bool):Nat→Bool:=fun t=>decide (H4 ops tags listed t)
theorem gR{t:Nat}:dE ops tags listed t=true↔H4 ops tags listed t:=by
 unfold dE;exact @decide_eq_true_iff _ (Classical.propDecidable _)
theorem cB.EI(h:cB cx ops tags K σ listed a w k ι):aN cx ((σ k).tt (bS (dE ops tags listed) (σ k).t)) a w ι :=
 ⟨h.hs.sa rfl rfl rfl,h.dfr,h.n,fun t v ht=>by
  have ht':look t (bS (dE ops tags listed) (σ k).t)=some v:=ht;rw[dB]at ht';split at ht'
  ·rename_i hok;exact h.tmp t v ht' (gR.1 hok)
  ·cases ht'⟩
theorem cB.tG(st:Stat ops tags K)(h:cB cx ops tags K σ listed a w k ι){i:Nat}{o:Oper}{tg:Tag}(ho:ops[i]?=some o)(htg:tags[i]?=some tg)(hed:∀j∈ct o,listed[j]?=some true){t:Nat}(ht:t∈o.looksAt ops):dE ops tags listed t=true :=
 gR.2 fun j oj tj hoj htj hr hd=>hed j (st.tG i o tg t ho htg ht j oj tj hoj htj hr hd)
theorem KY{o:Oper}{x:Operand}{t:Nat}(hx:x∈o.op.operands.toList)(e:x=.tmp t):t∈o.looksAt ops:=by
 subst e;unfold Oper.looksAt;exact List.mem_append_left _ (List.mem_filterMap.2 ⟨_,hx,rfl⟩)
theorem cB.wanted(st:Stat ops tags K)(h:cB cx ops tags K σ listed a w k ι){i:Nat}{o:Oper}{tg:Tag}(ho:ops[i]?=some o)(htg:tags[i]?=some tg)(hed:∀j∈ct o,listed[j]?=some true){on:Bool}(hg:fL ops (σ k) on o.guard):Region.wanted o (yielded ops a.tmps)=on:=by
 unfold fL at hg;split at hg
 ·rename_i hn;simp[Region.wanted,hn,hg]
 ·rename_i j b hn;split at hg
  ·rename_i og hog;split at hg
   ·rename_i d hd;have hl:d∈o.looksAt ops:=by
     unfold Oper.looksAt;refine List.mem_append_right _ ?_;simp[hn,hog,hd]
    rcases hg with hg|⟨hon,hg⟩
    ·obtain⟨x,hx,hr⟩:=h.tmp d _ hg (gR.1 (h.tG st ho htg hed hl));cases hr;cases on<;>cases b<;>simp[Region.wanted,hn,yielded,hog,hd,hx]
    ·obtain⟨x,hx,hr⟩:=h.tmp d _ hg (gR.1 (h.tG st ho htg hed hl));cases hr;subst hon;cases b<;>simp[Region.wanted,hn,yielded,hog,hd,hx]
   ·cases hg
  ·cases hg
theorem cB.step(st:Stat ops tags K)(h:cB cx ops tags K σ listed a w k ι){i:Nat}{o:Oper}{tg:Tag}(ho:ops[i]?=some o)(ht:tags[i]?=some tg)(hr:tg.ew=true)(hed:∀j∈ct o,listed[j]?=some true){d:Nat}(hd:o.dst=some d)
  {w':World} {ι':Env} {x:Value} (hs':HS cx.M cx.w0 w' ι' (σ k)) (hno:∀id,id≠d→ι id=none→ι' id=none) (hv:∀v,look d (σ k).t=some v→Rel (NN cx.M ι') w' ι' v x) (hdn:(look d (σ k).t).isSome=true→d<cx.n)
  (hm:∀t v y,t≠d→look t (σ k).t=some v→Rel (NN cx.M ι) w ι v y→Rel (NN cx.M ι') w' ι' v y):cB cx ops tags K σ (listed.setIfInBounds i true) (a.put (some d) x) w' k ι':=by
 have hi:i<listed.size:=by rw[h.sz];exact(Array.getElem?_eq_some_iff.1 ho).1
 obtain⟨d',hd',huniq⟩:=st.dst i o tg ho ht hr;rw[hd]at hd';injection hd' with hd';subst hd'
 refine⟨by simp[h.sz],fun j oj hoj hj j' hj'=>?_,h.kK,fun j m hjm=>?_,hs',fun j oj tg' d' hoj hj hnw hdj hnl=>?_,h.dfr,by simp[Act.put,h.n],fun t v hv' hok=>?_⟩
 ·rw[cV hi]at hj⊢;rcases hj with rfl|hj
  ·rw[ho]at hoj;injection hoj with hoj;subst hoj
   exact .inr (hed j' hj')
  ·exact .inr (h.cl j oj hoj hj j' hj')
 ·rw[cV hi];constructor
  ·rintro (rfl|hj)
   ·rw[ht]at hjm;injection hjm with hjm;subst hjm;cases hr
   ·exact(h.wr j m hjm).1 hj
  ·intro hm';exact .inr ((h.wr j m hjm).2 hm')
 ·have hji:j≠i:=by rintro rfl;exact hnl ((cV hi).2 (.inl rfl))
  have hnl':listed[j]?≠some true:=fun hh=>hnl ((cV hi).2 (.inr hh));refine hno d' ?_ (h.al j oj tg' d' hoj hj hnw hdj hnl')
  rintro rfl
  exact huniq j oj hoj hji hdj
 ·by_cases e:t=d
  ·subst e;exact⟨x,by have:=hdn (by rw[hv'];rfl);simp[Act.put,h.n,this],hv v hv'⟩
  ·obtain⟨y,hy,hry⟩:=h.tmp t v hv' (fun j oj tj hoj htj hrj hdj=>by
    have:=hok j oj tj hoj htj hrj hdj;rw[cV hi]at this;rcases this with rfl|this
    ·rw[ho]at hoj;injection hoj with hoj;subst hoj
     rw[hd]at hdj;injection hdj with hdj;exact(e hdj.symm).elim
    ·exact this)
   exact⟨y,by simp only[Act.put];rw[Array.getElem?_setIfInBounds_ne (fun e'=>e e'.symm)];exact hy,hm t v y e hv' hry⟩
end
section
variable{cx:Cx}{ops:Array Oper}{tags:List Tag}{K:Nat}{σ:Nat→AS}{listed:Array Bool}{a:Act}{w:World}{k:Nat}{ι:Env}{s0:AS}
theorem gL{i:Nat}(h:i∈Region.ready .any ops listed):listed[i]?≠some true∧∃o,ops[i]?=some o∧∀j∈ct o,listed[j]?=some true:=by
 unfold Region.ready at h;simp only[List.mem_filter,List.mem_range,Bool.and_eq_true,Bool.not_eq_true']at h;obtain⟨hi,h1,h2⟩:=h;have ho:=Array.getElem?_eq_getElem (xs:=ops) hi;rw[ho]at h2;simp only[Option.map_some,Option.getD_some,Array.all_eq_true_iff_forall_mem,Bool.or_eq_true,Bool.not_eq_true']at h2;refine⟨fun hh=>?_,_,ho,fun j hj=>?_⟩
 ·rw[Array.getD_eq_getD_getElem?,hh]at h1;cases h1
 ·obtain⟨e,he,hb,rfl⟩:=lJ.1 hj;rcases h2 e he with h3|h3
  ·rw[hb]at h3;cases h3
  ·rw[Array.getD_eq_getD_getElem?]at h3;cases hl:listed[e.on]? with
   | none=>rw[hl]at h3;cases h3
   | some b=>rw[hl]at h3;simp only[Option.getD_some]at h3;rw[h3]
theorem Qw(st:Stat ops tags K)(hfull:tags.length=ops.size)(hsz:listed.size=ops.size)(h:Region.ready .any ops listed=[]):∀i,i<ops.size→listed[i]?=some true:=by
 intro i
 induction i using Nat.strongRecOn with
 | _ i ih =>
  intro hi;have ho:=Array.getElem?_eq_getElem (xs:=ops) hi;cases hl:listed[i]? with
  | none=>rw[Array.getElem?_eq_none_iff]at hl;omega
  | some b =>
   cases b with
   | true=>rfl
   | false =>
    exfalso;have hm:i∈Region.ready .any ops listed:=by
     unfold Region.ready;simp only[List.mem_filter,List.mem_range,Bool.and_eq_true,Bool.not_eq_true'];refine⟨hi,by rw[Array.getD_eq_getD_getElem?,hl];rfl,?_⟩;rw[ho];simp only[Option.map_some,Option.getD_some,Array.all_eq_true_iff_forall_mem,Bool.or_eq_true,Bool.not_eq_true'];intro e he;by_cases hb:Region.binds .any e=true
     ·right;have hj:e.on∈ct ops[i]:=lJ.2 ⟨e,he,hb,rfl⟩;have hlt:=st.lex i _ _ ho (List.getElem?_eq_getElem (by rw[hfull];exact hi)) e.on hj;rw[Array.getD_eq_getD_getElem?,ih e.on hlt (by omega)];rfl
     ·left;simpa using hb
    rw[h]at hm;cases hm
def fp(listed:Array Bool):Nat:=(listed.toList.filter (fun b=>!b)).length
theorem nj{i:Nat}(h:listed[i]?=some false):fp (listed.setIfInBounds i true)+1=fp listed:=by
 have hi:i<listed.size:=(Array.getElem?_eq_some_iff.1 h).1;have hv:listed.toList[i]'(by simpa using hi)=false:=by have:=(Array.getElem?_eq_some_iff.1 h).2;simpa using this
 unfold fp;rw[Array.toList_setIfInBounds];have key:∀(l:List Bool) (i:Nat) (hi:i<l.length),l[i]=false→((l.set i true).filter (fun b=>!b)).length+1=(l.filter (fun b=>!b)).length:=by
  intro l
  induction l with
  | nil=>intro i hi _;simp at hi
  | cons b r ih =>
   intro i hi hb;cases i with
   | zero=>simp at hb;subst hb;simp
   | succ i =>
    simp only[List.set_cons_succ,List.filter_cons];have:=ih i (by simpa using hi) (by simpa using hb);split<;>(try simp only[List.length_cons])<;>omega
 exact key _ i (by simpa using hi) hv
theorem n9(h:fp listed=0)(i:Nat)(hi:i<listed.size):listed[i]?=some true:=by
 unfold fp at h;have hn:=List.eq_nil_of_length_eq_zero h;rw[Array.getElem?_eq_getElem hi];congr 1;cases hb:listed[i] with
 | true=>rfl
 | false =>
  exfalso;have:listed[i]∈listed.toList.filter (fun b=>!b):=List.mem_filter.2 ⟨by simp,by simp[hb]⟩;rw[hn]at this;cases this
theorem cB.one{Q':Exit→Act→World→Prop}{Knext:Act→World→Prop}(st:Stat ops tags K)(dy:iH cx.P cx.n s0 ops tags K σ)(h:cB cx ops tags K σ listed a w k ι){i:Nat}(hit:i<tags.length)(hi:i∈Region.ready .any ops listed)
  (hK:∀a' w' k' ι',cB cx ops tags K σ (listed.setIfInBounds i true) a' w' k' ι'→Knext a' w'):wpOp cx.P ops Q' i Knext a w:=by
 obtain⟨hnl,o,ho,hed⟩:=gL hi;have hil:i<ops.size:=(Array.getElem?_eq_some_iff.1 ho).1;have htg:=List.getElem?_eq_getElem (l:=tags) (i:=i) hit;generalize tags[i]'hit=tg at htg;have hsim:=h.EI;have hopd:∀x t,x∈o.op.operands.toList→x=.tmp t→dE ops tags listed t=true:=fun x t hx e=>h.tG st ho htg hed (KY hx e);unfold wpOp;simp only[ho]
 -- what an operation of the list 'aop' does
 have plain:∀{s':AS},bE cx.P cx.n (σ k) o=some s'→∃ι',(∀id,some id≠o.dst→ι id=none→ι' id=none)∧∃s2,s2.o=s'.o∧s2.r=s'.r∧s2.u=s'.u∧(∀t v,dE ops tags listed t=true∨some t=o.dst→look t s'.t=some v→look t s2.t=some v) ∧
   ∃a' w',aN cx s2 a' w' ι'∧(∀R:Act→World→Prop,R a' w'→o.wp cx.P a w R Q'):=by
  intro s' hs';obtain⟨s2,f1,f2,f3,f4,f5⟩:=Lt (ok:=dE ops tags listed) hs' hopd;obtain⟨ι',g1,g2⟩:=DX hsim f1;refine⟨ι',g1,s2,f2,f3,f4,f5,?_⟩;obtain⟨x,w',hr,hs2⟩|⟨w',hr,hs2⟩:=g2
  ·exact⟨_,_,hs2,fun R hR=>by unfold Oper.wp;rw[hr];exact hR⟩
  ·exact⟨_,_,hs2,fun R hR=>by unfold Oper.wp;rw[hr];exact hR⟩
 have hwrn:∀{m},tg=.s m→∀j m',tags[j]?=some (.s m')→j≠i→m'≠m:=fun e j m' hj hne e'=>by
  subst e;subst e';exact hne ((st.chain i o _ ho htg).2.2.2 j hj)
 have hlsz:i<listed.size:=by rw[h.sz];exact hil
 cases tg with
 | s m =>
  obtain⟨hm1,hmK,hprev,huniq⟩:=st.chain i o m ho htg;have hmk:m=k+1:=by
   have h1:¬ m≤k:=fun hle=>hnl ((h.wr i m htg).2 hle);have h2:m≤k+1:=by
    by_cases h2m:2≤m
    ·obtain⟨j,hj,hs⟩:=hprev h2m;have:=(h.wr j _ hs).1 (hed j hj);omega
    ·omega
   omega
  subst hmk;obtain⟨hg,ha⟩:=dy.s i o k ho htg;have hw:Region.wanted o (yielded ops a.tmps)=true:=by simp[Region.wanted,hg]
  rw[if_pos hw];have fin:∀a' w' ι' s2,(∀id,some id≠o.dst→ι id=none→ι' id=none)→s2.o=(σ (k+1)).o→s2.r=(σ (k+1)).r→s2.u=(σ (k+1)).u →
    (∀t v,dE ops tags listed t=true∨some t=o.dst→look t (σ (k+1)).t=some v→look t s2.t=some v)→aN cx s2 a' w' ι'→cB cx ops tags K σ (listed.setIfInBounds i true) a' w' (k+1) ι':=fun a' w' ι' s2 g1 e1 e2 e3 e4 hs2=>by
   refine⟨by simp[h.sz],fun j oj hoj hj j' hj'=>?_,hmK,fun j m' hjm=>?_,hs2.hs.sa e1 e2 e3,fun j oj tg' d' hoj hj hnw hdj hnl'=>?_,hs2.dfr,hs2.n,fun t v hv hok=>?_⟩
   ·rw[cV hlsz]at hj⊢;rcases hj with rfl|hj
    ·rw[ho]at hoj;injection hoj with hoj;subst hoj;exact .inr (hed j' hj')
    ·exact .inr (h.cl j oj hoj hj j' hj')
   ·rw[cV hlsz];by_cases e:j=i
    ·subst e;rw[htg]at hjm;injection hjm with hjm;injection hjm with hjm;subst hjm;simp
    ·have:=h.wr j m' hjm;have hne:=hwrn rfl j m' hjm e;constructor
     ·rintro (h1|h1)
      ·exact(e h1).elim
      ·have:=this.1 h1;omega
     ·intro hle;exact .inr (this.2 (by omega))
   ·have hji:j≠i:=by rintro rfl;exact hnl' ((cV hlsz).2 (.inl rfl))
    have hnl2:listed[j]?≠some true:=fun hh=>hnl' ((cV hlsz).2 (.inr hh));refine g1 d' (fun e=>?_) (h.al j oj tg' d' hoj hj hnw hdj hnl2);obtain⟨d2,hd2,hu2⟩:=st.dst j oj _ hoj hj (Tag.K8 hnw);rw[hdj]at hd2;injection hd2 with hd2;subst hd2
    exact hu2 i o ho (fun e'=>hji e'.symm) e.symm
   ·refine hs2.tmp t v (e4 t v (.inl (gR.2 fun j oj tj hoj htj hrj hdj=>?_)) hv);have:=hok j oj tj hoj htj hrj hdj;rw[cV hlsz]at this;rcases this with rfl|this
    ·rw[htg]at htj;injection htj with htj;subst htj;cases hrj
    ·exact this
  rcases ha with ha|⟨dl,v0,q1,q2,q3⟩
  ·obtain⟨ι',g1,s2,e1,e2,e3,e4,a',w',hs2,hwp⟩:=plain ha;exact .inl (hwp _ (hK a' w' (k+1) ι' (fin a' w' ι' s2 g1 e1 e2 e3 e4 hs2)))
  ·have hokl:dE ops tags listed dl=true:=gR.2 fun j oj tj hoj _ _ hdj=>(q2 j oj hoj hdj).elim;obtain⟨y,_,hr⟩:=hsim.tmp dl (.lk 440001 v0) (by show look dl (bS _ _)=_;rw[dB,if_pos hokl];exact q1);cases hr with
   | lk _ _ _ _ hv _ =>
    exact .inl (q3 cx rfl rfl _ a w ι hsim hv hopd _ Q' (fun a' w' ι' s2 g1 e1 e2 e3 e4 hs2=>hK a' w' (k+1) ι' (fin a' w' ι' s2 g1 e1 e2 e3 e4 hs2)))
 | v lo n =>
  obtain⟨s1,s2'⟩:=h.pu st ho htg rfl hnl hed;obtain⟨hg,ha⟩:=dy.v i o lo n ho htg k s1 s2';have hw:=h.wanted st ho htg hed hg;rw[if_pos hw];obtain⟨d,hd,huniq⟩:=st.dst i o _ ho htg rfl;obtain⟨ι',g1,s2,e1,e2,e3,e4,a',w',hs2,hwp⟩:=plain ha;refine .inl (hwp _ (hK a' w' k ι' ?_));refine⟨by simp[h.sz],fun j oj hoj hj j' hj'=>?_,h.kK,fun j m' hjm=>?_,hs2.hs.sa e1 e2 e3,fun j oj tg' d' hoj hj hnw hdj hnl'=>?_,hs2.dfr,hs2.n,fun t v hv hok=>?_⟩
  ·rw[cV hlsz]at hj⊢;rcases hj with rfl|hj
   ·rw[ho]at hoj;injection hoj with hoj;subst hoj;exact .inr (hed j' hj')
   ·exact .inr (h.cl j oj hoj hj j' hj')
  ·rw[cV hlsz];have e:j≠i:=by rintro rfl;rw[htg]at hjm;cases hjm
   have:=h.wr j m' hjm;constructor
   ·rintro (h1|h1)
    ·exact(e h1).elim
    ·exact this.1 h1
   ·intro hle;exact .inr (this.2 hle)
  ·have hji:j≠i:=by rintro rfl;exact hnl' ((cV hlsz).2 (.inl rfl))
   have hnl2:listed[j]?≠some true:=fun hh=>hnl' ((cV hlsz).2 (.inr hh));refine g1 d' (fun e=>?_) (h.al j oj tg' d' hoj hj hnw hdj hnl2);rw[hd]at e;injection e with e;subst e
   exact huniq j oj hoj hji hdj
  ·refine hs2.tmp t v (e4 t v ?_ hv);by_cases e:t=d
   ·right;rw[hd,e]
   ·left;refine gR.2 fun j oj tj hoj htj hrj hdj=>?_;have:=hok j oj tj hoj htj hrj hdj;rw[cV hlsz]at this;rcases this with rfl|this
    ·rw[ho]at hoj;injection hoj with hoj;subst hoj
     rw[hd]at hdj;injection hdj with hdj;exact(e hdj.symm).elim
    ·exact this
 | c lo n =>
  obtain⟨s1,s2'⟩:=h.pu st ho htg rfl hnl hed;obtain⟨hg,ha⟩:=dy.c i o lo n ho htg k s1 s2';have hw:=h.wanted st ho htg hed hg;rw[if_pos hw];rcases ha with ha|ha|ha
  case inr.inr =>
   obtain⟨d,dl,tid,x,b,hd,ha,hlt,hdl,hll,hrb,hno⟩:=ha;obtain⟨d',hd',huniq⟩:=st.dst i o _ ho htg rfl;rw[hd]at hd';injection hd' with hd';subst hd'
   obtain⟨ι',g1,s2,e1,e2,e3,e4,a',w',hs2,hwp⟩:=plain ha;have hokl:dE ops tags listed dl=true:=gR.2 fun j oj tj hoj _ _ hdj=>(hno j oj hoj hdj).elim;have hx:ι' tid=some x:=by
    obtain⟨y,_,hr⟩:=hs2.tmp dl (.lk tid x) (e4 dl _ (.inl hokl) (by simp only[AS.put,ca];rw[if_neg hdl];exact hll));cases hr with
    | lk _ _ _ _ h _=>exact h
   refine .inl (hwp _ (hK a' w' k ι' ?_));refine⟨by simp[h.sz],fun j oj hoj hj j' hj'=>?_,h.kK,fun j m' hjm=>?_,hs2.hs.sa e1 e2 e3,fun j oj tg' d' hoj hj hnw hdj hnl'=>?_,hs2.dfr,hs2.n,fun t v hv hok=>?_⟩
   ·rw[cV hlsz]at hj⊢;rcases hj with rfl|hj
    ·rw[ho]at hoj;injection hoj with hoj;subst hoj;exact .inr (hed j' hj')
    ·exact .inr (h.cl j oj hoj hj j' hj')
   ·rw[cV hlsz];have e:j≠i:=by rintro rfl;rw[htg]at hjm;cases hjm
    have:=h.wr j m' hjm;constructor
    ·rintro (h1|h1)
     ·exact(e h1).elim
     ·exact this.1 h1
    ·intro hle;exact .inr (this.2 hle)
   ·have hji:j≠i:=by rintro rfl;exact hnl' ((cV hlsz).2 (.inl rfl))
    have hnl2:listed[j]?≠some true:=fun hh=>hnl' ((cV hlsz).2 (.inr hh));refine g1 d' (fun e=>?_) (h.al j oj tg' d' hoj hj hnw hdj hnl2);rw[hd]at e;injection e with e;subst e
    exact huniq j oj hoj hji hdj
   ·by_cases e:t=d
    ·subst e;rw[hlt]at hv;injection hv with hv;subst hv
     obtain⟨y,hy,hr⟩:=hs2.tmp t (.vv x) (e4 t _ (.inr hd.symm) (by simp[AS.put,ca]));refine⟨y,hy,?_⟩;cases hr;obtain⟨v,xs,q1,q2,_⟩:=hs2.hs.arrs tid b (by rw[e2];exact hrb) (by rw[hx];rfl);rw[hx]at q1;injection q1 with q1;subst q1
     obtain⟨A',m,c,rfl⟩:∃A m c,x=.slice A m c:=by
      rcases q2.2 with⟨hv,_⟩|⟨_,_,_,hv,_⟩<;>exact⟨_,_,_,hv⟩
     exact .ref _ _ _ _ _ hx
    ·refine hs2.tmp t v (e4 t v (.inl ?_) (by simp only[AS.put,ca];rw[if_neg e];exact hv));refine gR.2 fun j oj tj hoj htj hrj hdj=>?_;have:=hok j oj tj hoj htj hrj hdj;rw[cV hlsz]at this;rcases this with rfl|this
     ·rw[ho]at hoj;injection hoj with hoj;subst hoj
      rw[hd]at hdj;injection hdj with hdj;exact(e hdj.symm).elim
     ·exact this
  case inr.inl =>
   obtain⟨f,args,l,V,d,h1,hsr,a3,a4,a5,a7,a8,a9⟩:=ha;have h1':rS ((σ k).tt (bS (dE ops tags listed) (σ k).t)) o=some (f,args,l):=by
    unfold rS at h1⊢;split at h1
    case h_2=>cases h1
    rename_i cl hop;split at h1
    case h_2=>cases h1
    rename_i fo hcal;have e1:((σ k).tt (bS (dE ops tags listed) (σ k).t)).ev fo=(σ k).ev fo:=by
     cases fo with
     | tmp t =>
      show look t (bS _ _)=look t _;rw[dB,if_pos (hopd (.tmp t) t (by simp[hop,Op.operands,Call.operands,hcal]) rfl)]
     | const v=>rfl
     | func g=>rfl
     | global g=>rfl
    have e2:cG ((σ k).tt (bS (dE ops tags listed) (σ k).t)) cl.args.toList=cG (σ k) cl.args.toList:=mc (fun x hx=>by
     cases x with
     | tmp t =>
      show look t (bS _ _)=look t _;rw[dB,if_pos (hopd (.tmp t) t (by simp[hop,Op.operands,Call.operands,hcal];exact .inr (Array.mem_toList_iff.1 hx)) rfl)]
     | const v=>rfl
     | func g=>rfl
     | global g=>rfl)
    simp only[hop,hcal,e1,e2,CI];exact h1
   left;have hK2:=TT (R:=Q') a9 a8 h1' (B1 _ _ l hsr) hsim (K:=Knext) (fun x v s1 ι1 w' hv hhs hr=>by
    subst hv;rw[a3];refine hK _ _ k ι (h.step st ho htg rfl hed a3 (h.hs.ji hhs.below.plain) (fun _ _ h=>h) (fun v' hv'=>?_) (fun _=>a5) (fun t v' y _ _ hr'=>hr'.mono hhs.below.plain.size (fun b _ hb=>hb) (fun b hlt _=>hhs.below.plain.block b hlt) (fun _ _ h=>h)));rw[a4]at hv';injection hv' with hv';subst hv';exact Gk a7 hr)
   exact hK2
  case inl =>
  unfold xz at ha;split at ha
  ·rename_i cl hop;split at ha
   ·rename_i fo hcal;obtain⟨f,aP,l,V,d,a1,a2,a3,a4,a5,a6,a7,a8,a9⟩:=ha;have hfo:((σ k).tt (bS (dE ops tags listed) (σ k).t)).ev fo=some (.fn f aP):=by
     cases fo with
     | tmp t =>
      show look t (bS _ _)=_;rw[dB,if_pos (hopd (.tmp t) t (by simp[hop,Op.operands,Call.operands,hcal]) rfl)];exact a1
     | const v=>exact a1
     | func g=>exact a1
     | global g=>exact a1
    have hl:cG ((σ k).tt (bS (dE ops tags listed) (σ k).t)) cl.args.toList=some l:=by
     rw[mc];exact a2;intro x hx;cases x with
     | tmp t =>
      show look t (bS _ _)=look t _;rw[dB,if_pos (hopd (.tmp t) t (by simp[hop,Op.operands,Call.operands,hcal];exact .inr (Array.mem_toList_iff.1 hx)) rfl)]
     | const v=>rfl
     | func g=>rfl
     | global g=>rfl
    left;unfold Oper.wp;obtain⟨ys,hrc,hc1,hc2⟩:=iR hsim hop hcal hfo a8;rw[hrc,Oper.upon_enter];refine (a9 (NN cx.M ι) w _ (fun b hb=>jH hsim.hs hb) (tq hsim hl a6 hc1 hc2)).mono ?_
    rintro e w' ⟨x,v,s3,ι1,rfl,rfl,hhs,hr⟩
    have h3:Rel (NN cx.M ι) w' ι v x:=(hr.pure a7 ι).mono (Nat.le_refl _) (fun b _ hb=>.inl hb) (fun _ _ _=>rfl) (fun _ _ h=>h);rw[a3];refine hK _ _ k ι (h.step st ho htg rfl hed a3 (h.hs.ji hhs.below.plain) (fun _ _ h=>h) (fun v' hv'=>?_) (fun _=>a5) (fun t v' y _ _ hr'=>hr'.mono hhs.below.plain.size (fun b _ hb=>hb) (fun b hlt _=>hhs.below.plain.block b hlt) (fun _ _ h=>h)));rw[a4]at hv';injection hv' with hv';subst hv';exact h3
   ·exact ha.elim
  ·exact ha.elim
 | a lo n =>
  obtain⟨s1,s2'⟩:=h.pu st ho htg rfl hnl hed;obtain⟨T,d,cs,hgn,hop,hd,hdn,hdu,hz,hall⟩:=dy.a i o lo n ho htg;obtain⟨b1,b2,b3,b4⟩:=hall k s1 s2';have hw:Region.wanted o (yielded ops a.tmps)=true:=by simp[Region.wanted,hgn]
  rw[if_pos hw];have hnone:=h.al i o _ d ho htg rfl hd hnl;unfold eg at hz;cases hit:cx.P.info? T with
  | none=>simp[hit]at hz
  | some it =>
   cases hzz:it.zero with
   | none=>simp[hit,hzz]at hz
   | some zv =>
    simp only[hit,Option.bind_some,hzz]at hz;have hc:=kI (NN cx.M ι) w ι hz;left;have hrun:(execOp a.eval o).run cx.P w=.ok (.value (.pointer (some ⟨w.heap.size,0,none⟩))) (w.alloc (.cells zv.cells T)):=by
     unfold execOp;simp[hop,Instr.alloc,zeroValue,typeInfo,hit,hzz,newVar,newRow]
    unfold Oper.wp;rw[hrun];show Knext _ _;rw[hd];have hs':=h.hs.Mr (d:=d) hnone b4 b2 (T:=T) (fun q=>by omega) b1 hc;simp only[Array.toArray_toList]at hs';refine hK _ _ k _ (h.step st ho htg rfl hed hd hs' (fun id hid hn=>(bq _ _ hid).trans hn) (fun v' hv'=>?_) (fun _=>Nat.lt_of_lt_of_le hdn (Nat.min_le_left _ _)) (fun t v' y _ _ hr'=>hr'.mono (by simp) (fun b hb hh=>?_) (fun b hb _=>Below.heap_alloc _ _ _ hb) (dQ hnone _)))
    ·rw[b3]at hv';injection hv' with hv';subst hv';exact .ptr _ _ _ _ (cr _ _ _)
    ·rcases er hh with hh|hh
     ·exact hh
     ·injection hh with hh;simp only[]at hh;omega
 | o lo n =>
  obtain⟨s1,s2'⟩:=h.pu st ho htg rfl hnl hed;obtain⟨d,a3,a5,hdu,hall⟩:=dy.o i o lo n ho htg;obtain⟨hg,ha⟩:=hall k s1 s2';have hw:=h.wanted st ho htg hed hg;rw[if_pos hw];have hnone:=h.al i o _ d ho htg rfl a3 hnl;unfold qu at ha;split at ha
  ·rename_i cl hop;split at ha
   ·rename_i fo hcal;obtain⟨f,aP,l,V,id,ar,hlt0,a1,a2,a6,a8,a9,hone,hT,hR,hO,hU⟩:=ha;have hfo:((σ k).tt (bS (dE ops tags listed) (σ k).t)).ev fo=some (.fn f aP):=by
     cases fo with
     | tmp t =>
      show look t (bS _ _)=_;rw[dB,if_pos (hopd (.tmp t) t (by simp[hop,Op.operands,Call.operands,hcal]) rfl)];exact a1
     | const v=>exact a1
     | func g=>exact a1
     | global g=>exact a1
    have hl:cG ((σ k).tt (bS (dE ops tags listed) (σ k).t)) cl.args.toList=some l:=by
     rw[mc];exact a2;intro x hx;cases x with
     | tmp t =>
      show look t (bS _ _)=look t _;rw[dB,if_pos (hopd (.tmp t) t (by simp[hop,Op.operands,Call.operands,hcal];exact .inr (Array.mem_toList_iff.1 hx)) rfl)]
     | const v=>rfl
     | func g=>rfl
     | global g=>rfl
    left;unfold Oper.wp;obtain⟨ys,hrc,hc1,hc2⟩:=iR hsim hop hcal hfo a8;rw[hrc,Oper.upon_enter];refine (a9 (NN cx.M ι) w _ (fun b hb=>jH hsim.hs hb) (tq hsim hl a6 hc1 hc2)).mono ?_
    rintro e w' ⟨x,v,s3,ι1,rfl,⟨rfl,hlook⟩,hhs,hr⟩
    obtain⟨y,hy⟩:=hone _ _ _ _ hr;obtain⟨hs1,hNN⟩:=h.hs.OM hhs hlt0 hy hlook hnone hU hO hR;have h3:Rel (NN cx.M (ext ι d y)) w' (ext ι d y) (v.eh id d) x:=hr.eh hNN (fun z hz=>by rw[hy]at hz;injection hz with hz;subst hz;exact cr _ _ _);rw[a3];refine hK _ _ k _ (h.step st ho htg rfl hed a3 hs1 (fun id' hid hn=>(bq _ _ hid).trans hn) (fun v' hv'=>?_) (fun _=>a5) (fun t v' y' _ _ hr'=>hr'.mono hhs.below.plain.size (fun b hb hh=>?_) (fun b hlt _=>hhs.below.plain.block b hlt) (dQ hnone _)))
    ·rw[hT]at hv';injection hv' with hv';subst hv';exact h3
    ·rcases er hh with hh|hh
     ·exact hh
     ·rcases (hhs.own id b (by rw[hy];exact hh)).1 with h9|h9;exact absurd hb (Nat.not_lt.2 h9);exact h9.elim
   ·exact ha.elim
  ·rename_i T n' parts hop;obtain⟨rfl,rfl,e,sz,hu',hz,hT,hR,hO,hU⟩:=ha;left;have hs':(sizeOf e).run cx.P w=.ok sz w:=by
    cases hi:cx.P.info? e with
    | none=>simp[bU,hi]at hz
    | some it =>
     have : it.size=sz:=by simpa[bU, hi]using hz
     simp[sizeOf,typeInfo,hi,this]
   have hrun:(execOp a.eval o).run cx.P w=.ok (.value (.slice (some ⟨w.heap.size,0,none⟩) 0 0)) (w.alloc (.cells #[] e)):=by
    unfold execOp;have r0:Array.range 0 = #[]:=rfl;simp[hop,Instr.buildSlice,run_underlying hu',hs',Instr.fill,newRow,r0]
   unfold Oper.wp;rw[hrun];show Knext _ _;rw[a3];have hs1:=h.hs.E6 (vs:=[]) hnone hU hO hR rfl (Nat.zero_le _) (by simp) (fun c hc=>(by cases hc)) (fun v hv=>(by cases hv)) (fun j c hj=>by simp at hj);simp only[List.length_nil]at hs1;refine hK _ _ k _ (h.step st ho htg rfl hed a3 hs1 (fun id hid hn=>(bq _ _ hid).trans hn) (fun v' hv'=>?_) (fun _=>a5) (fun t v' y _ _ hr'=>hr'.mono (by simp) (fun b hb hh=>?_) (fun b hb _=>Below.heap_alloc _ _ _ hb) (dQ hnone _)))
   ·rw[hT]at hv';injection hv' with hv';subst hv';exact .ref _ _ _ _ _ (cr _ _ _)
   ·rcases er hh with hh|hh
    ·exact hh
    ·injection hh with hh;simp only[]at hh;omega
  ·rename_i T x y hop;obtain⟨kd,kd',m,e,sz,bytes,zc,hx,hy,htp,hz,hb,hT,hR,hO,hU⟩:=ha;have hx1:((σ k).tt (bS (dE ops tags listed) (σ k).t)).ev x=some (.int kd m):=by
    cases x with
    | tmp t=>show look t (bS _ _)=_;rw[dB,if_pos (hopd (.tmp t) t (by simp[hop,Op.operands]) rfl)];exact hx
    | const v=>exact hx
    | func g=>exact hx
    | global g=>exact hx
   have hy1:((σ k).tt (bS (dE ops tags listed) (σ k).t)).ev y=some (.int kd' m):=by
    cases y with
    | tmp t=>show look t (bS _ _)=_;rw[dB,if_pos (hopd (.tmp t) t (by simp[hop,Op.operands]) rfl)];exact hy
    | const v=>exact hy
    | func g=>exact hy
    | global g=>exact hy
   left;obtain⟨vs,hrun,q1,q2,q3,q4,q5⟩:=Dx (P:=cx.P) (N:=NN cx.M ι) w htp hz hb kd kd';unfold Oper.wp execOp;simp only[hop,Sem.run_bind,j9 hsim hx1,j9 hsim hy1,hrun,Result.andThen_ok,Sem.run_pure];show Knext _ _;rw[a3];have hs1:=h.hs.E6 (vs:=vs) hnone hU hO hR (by simp) q1 q2 q3 q4 q5;refine hK _ _ k _ (h.step st ho htg rfl hed a3 hs1 (fun id hid hn=>(bq _ _ hid).trans hn) (fun v' hv'=>?_) (fun _=>a5) (fun t v' y _ _ hr'=>hr'.mono (by simp) (fun b hb hh=>?_) (fun b hb _=>Below.heap_alloc _ _ _ hb) (dQ hnone _)))
   ·rw[hT]at hv';injection hv' with hv';subst hv';exact .ref _ _ _ _ _ (cr _ _ _)
   ·rcases er hh with hh|hh
    ·exact hh
    ·injection hh with hh;simp only[]at hh;omega
  ·exact ha.elim
 | off lo n =>
  obtain⟨s1,s2'⟩:=h.pu st ho htg rfl hnl hed;obtain⟨hall,hnod⟩:=dy.off i o lo n ho htg;obtain⟨hg,hgn⟩:=hall k s1 s2';have hw:=h.wanted st ho htg hed hg;rw[if_neg (by rw[hw];simp)];obtain⟨d,hd,huniq⟩:=st.dst i o _ ho htg rfl;rw[hd];refine hK _ _ k ι (h.step st ho htg rfl hed hd h.hs (fun _ _ h=>h) (fun v' hv'=>?_) (fun hs=>?_) (fun t v' y _ _ hr'=>hr'))
  ·rcases hnod d k hd h.kK with h0|⟨h0,_⟩
   ·rw[h0]at hv';cases hv'
   ·rw[h0]at hv';injection hv' with hv';subst hv'
    exact .tup _ _ [] rfl (fun i x v hx _=>by simp at hx)
  ·rcases hnod d k hd h.kK with h0|⟨_,h0⟩
   ·rw[h0]at hs;cases hs
   ·exact h0
theorem cB.any{Q':Exit→Act→World→Prop}(st:Stat ops tags K)(hfull:tags.length=ops.size)(dy:iH cx.P cx.n s0 ops tags K σ)(hQ:∀a w ι,aN cx (σ K) a w ι→Q' .normal a w):
  ∀(fuel:Nat) (listed:Array Bool) (a:Act) (w:World) (k:Nat) (ι:Env),fp listed=fuel→cB cx ops tags K σ listed a w k ι→wpAny cx.P .any ops Q' fuel listed a w:=by
 have fin:∀(listed:Array Bool) (a:Act) (w:World) (k:Nat) (ι:Env),cB cx ops tags K σ listed a w k ι→(∀i,i<ops.size→listed[i]?=some true)→Q' .normal a w:=by
  intro listed a w k ι h hall;have hk:k=K:=by
   have:=h.kK;rcases st.last with h0|⟨i,hi⟩
   ·omega
   ·have hil:i<ops.size:=by rw[←hfull];exact(List.getElem?_eq_some_iff.1 hi).1
    have:=(h.wr i K hi).1 (hall i hil);omega
  subst hk;exact hQ a w ι ⟨h.hs,h.dfr,h.n,fun t v hv=>h.tmp t v hv (fun i o tg ho _ _ _=>hall i (Array.getElem?_eq_some_iff.1 ho).1)⟩
 intro fuel
 induction fuel with
 | zero =>
  intro listed a w k ι hl h;have hall:∀i,i<ops.size→listed[i]?=some true:=fun i hi=>n9 hl i (by rw[h.sz];exact hi);refine⟨?_,fin listed a w k ι h hall⟩;cases hr:Region.ready .any ops listed with
  | nil=>rfl
  | cons i r =>
   exfalso;obtain⟨hnl,o,ho,_⟩:=gL (ops:=ops) (listed:=listed) (i:=i) (by rw[hr];simp);exact hnl (hall i (Array.getElem?_eq_some_iff.1 ho).1)
 | succ fuel ih =>
  intro listed a w k ι hl h;refine⟨fun hr=>fin listed a w k ι h (Qw st hfull h.sz hr),fun i hi=>?_⟩;obtain⟨_,o0,ho0,_⟩:=gL hi;refine h.one st dy (by rw[hfull];exact(Array.getElem?_eq_some_iff.1 ho0).1) hi (fun a' w' k' ι' hm=>ih _ a' w' k' ι' ?_ hm);obtain⟨hnl,o,ho,_⟩:=gL hi;have hlt:i<listed.size:=by rw[h.sz];exact(Array.getElem?_eq_some_iff.1 ho).1
  have hf:listed[i]?=some false:=by
   rw[Array.getElem?_eq_getElem hlt]at hnl⊢;cases hb:listed[i] with
   | true=>rw[hb]at hnl;exact(hnl rfl).elim
   | false=>rfl
  have:=nj hf;omega
theorem cB.start(st:Stat ops tags K)(dy:iH cx.P cx.n s0 ops tags K σ){a:Act}{w:World}{ι:Env}(hsim:aN cx s0 a w ι):cB cx ops tags K σ (Array.replicate ops.size false) a { w with drawn:=w.drawn+1 } 0 ι:=by
 have hdr:Below w.heap.size w { w with drawn:=w.drawn+1 }:=⟨rfl,rfl,rfl,Nat.le_refl _,fun _ _=>rfl⟩;have hs:=hsim.ji hdr;refine⟨by simp,fun i o ho hl=>?_,Nat.zero_le _,fun i m hm'=>?_,?_,fun i o tg d ho ht hnw hd _=>?_,hs.dfr,hs.n,fun t v hv hok=>?_⟩
 ·rw[Array.getElem?_replicate]at hl;split at hl<;>cases hl
 ·constructor
  ·intro hl;rw[Array.getElem?_replicate]at hl;split at hl<;>cases hl
  ·intro hle;have hil:i<ops.size:=by have:=(List.getElem?_eq_some_iff.1 hm').1;have:=st.len;omega
   have:=(st.chain i _ m (Array.getElem?_eq_getElem hil) hm').1;omega
 ·have h0:=hs.hs;have i3h:∀id,has s0.u id=true→has (σ 0).u id=true:=fun id h=>(IP h).elim (fun h=>eB (dy.i3 id h)) (fun h=>by unfold has;rw[Nat.ble_eq_true_of_le h,Bool.or_true]);refine⟨h0.below,h0.old,fun i y hy=>i3h i (h0.use i y hy),h0.own,h0.inj,fun i cs hi=>(dy.i4 i cs hi).elim (fun h=>h) (fun h=>i3h i (h0.ko i cs h)),fun i a hi=>?_,fun i cs hi hp=>?_,fun i a hi hp=>?_,fun i y hp=>⟨(h0.pin i y hp).1,dy.i3 _ (h0.pin i y hp).2⟩⟩
  ·exact(dy.i6 i a hi).elim (fun h=>h) (fun h=>i3h i (h0.kr i a h))
  ·rcases dy.i2 i cs hi with h1|h1
   ·exact h0.objs i cs h1 hp
   ·have:=h0.free h1;rw[this]at hp;cases hp
  ·rcases dy.i1 i a hi with h1|h1
   ·exact h0.arrs i a h1 hp
   ·have:=h0.free h1;rw[this]at hp;cases hp
 ·cases tg with
  | a lo m =>
   obtain⟨T,d',cs,_,_,hd',_,hdu,_⟩:=dy.a i o lo m ho ht;rw[hd]at hd';injection hd' with hd';subst hd'
   exact hs.hs.free hdu
  | o lo m =>
   obtain⟨d',hd',_,hdu,_⟩:=dy.o i o lo m ho ht;rw[hd]at hd';injection hd' with hd';subst hd'
   exact hs.hs.free hdu
  | _=>cases hnw
 ·rcases dy.i5 t v hv with⟨i,o,tg,ho,ht,hr,hd⟩|h1
  ·have:=hok i o tg ho ht hr hd;rw[Array.getElem?_replicate]at this;split at this<;>cases this
  ·exact hs.tmp t v h1
theorem N9{Q:Exit→Act→World→Prop}{ks:List aq}{id:Nat}(σ:Nat→AS)(tags:List Tag)(K:Nat)(hm:cx.P.follows .mixedOrders=true)(st:Stat ops tags K)(hfull:tags.length=ops.size)(dy:iH cx.P cx.n s0 ops tags K σ)
  (h:VE cx Q ks .normal (σ K)):VE cx Q (.c (.region id ops true)::ks) .normal s0:=fun a w ι hsim=>by
 refine wp_region_any hm (cB.any st hfull dy (fun a w ι hs=>h a w ι hs) ops.size _ a _ 0 ι (by simp[fp]) (cB.start st dy hsim))
end
def de(lo:Nat):Nat→(Nat→Prop)→Prop
 | 0,_=>True
 | n+1,p=>p lo∧de (lo+1) n p
theorem mw{p:Nat→Prop}:∀{n lo:Nat},de lo n p→∀j,lo≤j→j<lo+n→p j
 | 0,lo,_,j,h1,h2=>by omega
 | n+1,lo,h,j,h1,h2=>by
  by_cases e:j=lo
  ·subst e;exact h.1
  ·exact mw h.2 j (by omega) (by omega)
def nth:List AS→Nat→AS
 | [],_=>⟨[],[],[],[]⟩
 | s::_,0=>s
 | _::r,n+1=>nth r n
def eJ{α:Type}:List (Nat×α)→List (Nat×α)→List (Nat×α)
 | [],l=>l
 | (k,v)::r,l=>eJ r (aZ k v l)
theorem oe{α:Type}:∀(m l:List (Nat×α)) (k:Nat) (v:α),look k (eJ m l)=some v→(∃p∈m,p.1=k)∨look k l=some v
 | [],l,k,v,h=>.inr h
 | (j,x)::r,l,k,v,h=>by
  rcases oe r _ k v h with⟨p,hp,e⟩|h1
  ·exact .inl ⟨p,List.mem_cons_of_mem _ hp,e⟩
  ·rw[ca]at h1;by_cases e:k=j
   ·exact .inl ⟨(j,x),List.mem_cons_self,e.symm⟩
   ·rw[if_neg e]at h1;exact .inr h1
def uZ(P:Program)(n:Nat)(s:AS)(o:Oper):Prop :=
 match o.op with
 | .call c=>match c.callee with
  | .value fo=>match s.ev fo,cG s c.args.toList,o.dst with
   | some (.fn f aP),some l,some d=>match look d s.t with
    | some V=>d<n∧db [] l=true∧V.cL []=true∧cf P f=true∧aU P f (l.map fP++aP) (fun v _=>v=V)
    | none=>False
   | _,_,_=>False
  | _=>False
 | _=>False
theorem Rm{P:Program}{n:Nat}{ops:Array Oper}{s:AS}{o:Oper}(h:uZ P n s o∨(Bw P n s o∨AR P n ops s o)):Gy P n ops s o:=by
 rcases h with h|h
 case inr=>exact .inr h
 left;unfold uZ at h;unfold xz;split at h
 ·split at h
  ·split at h
   ·rename_i f aP l d h1 h2 h3;split at h
    ·rename_i V hV;exact⟨f,aP,l,V,d,h1,h2,h3,hV,h.1,h.2.1,h.2.2.1,h.2.2.2.1,h.2.2.2.2⟩
    ·cases h
   ·cases h
  ·cases h
 ·cases h
def AA(P:Program)(n:Nat)(s0:AS)(o:Oper)(p:Nat→List AV→Prop):Prop :=
 match o.op with
 | .alloc T=>match o.dst,eg P T with
  | some d,some cs=>d<min n 450000∧has s0.u d=false∧p d cs
  | _,_=>False
 | _=>False
def zD(n:Nat)(o:Oper)(s:AS):Prop:=match o.dst with|some d=>look d s.t=none∨(look d s.t=some (.tup [])∧d<n)|none=>True
def dT(P:Program)(n:Nat)(s0:AS)(all:Array Oper)(K:Nat)(σs:List AS)(o:Oper):Tag→Prop
 | .s 0=>False
 | .s (m+1)=>o.guard=none∧(bE P n (nth σs m) o=some (nth σs (m+1))∨xL P n all (nth σs m) (nth σs (m+1)) o)
 | .v lo k=>de lo k fun j=>fL all (nth σs j) true o.guard∧bE P n (nth σs j) o=some (nth σs j)
 | .c lo k=>de lo k fun j=>fL all (nth σs j) true o.guard∧(uZ P n (nth σs j) o∨(Bw P n (nth σs j) o∨AR P n all (nth σs j) o))
 | .a lo k=>o.guard=none∧AA P n s0 o fun d cs=>de lo k fun j=>look d (nth σs j).o=some cs∧look d (nth σs j).r=none∧look d (nth σs j).t=some (.ptr d 0)∧has (nth σs j).u d=true
 | .o lo k=>∃d,o.dst=some d∧d<n∧has s0.u d=false∧de lo k fun j=>fL all (nth σs j) true o.guard∧qu P n (nth σs j) o d
 | .off lo k=>o.guard≠none∧(de lo k fun j=>fL all (nth σs j) false o.guard)∧de 0 (K+1) fun j=>zD n o (nth σs j)
def dz(P:Program)(n:Nat)(s0:AS)(all:Array Oper)(K:Nat)(σs:List AS):List Oper→List Tag→Prop
 | o::r,t::ts=>dT P n s0 all K σs o t∧dz P n s0 all K σs r ts
 | _,_=>True
theorem Gf{P:Program}{n:Nat}{s0:AS}{all:Array Oper}{K:Nat}{σs:List AS}:∀{l:List Oper} {ts:List Tag},dz P n s0 all K σs l ts→∀(i:Nat) (o:Oper) (t:Tag),l[i]?=some o→ts[i]?=some t→dT P n s0 all K σs o t
 | [],_,_,i,o,t,h,_=>by simp at h
 | _::_,[],_,i,o,t,_,h=>by simp at h
 | o'::r,t'::ts,h,0,o,t,h1,h2=>by simp at h1 h2;subst h1;subst h2;exact h.1
 | o'::r,t'::ts,h,i+1,o,t,h1,h2=>Gf h.2 i o t (by simpa using h1) (by simpa using h2)
def eR(s:AS)(rv:List (Nat×AV))(al:List (Nat×List AV))(rl:List (Nat×br)):AS:={ t:=eJ rv s.t,o:=eJ al s.o,r:=eJ rl s.r,u:=rl.map (·.1)++(al.map (·.1)++s.u) }
def fresh{α:Type}(u:List Nat):List (Nat×α)→Prop
 | []=>True
 | (k,_)::r=>has u k=false∧fresh u r
theorem Ah{α:Type}{u:List Nat}:∀{l:List (Nat×α)},fresh u l→∀p∈l,has u p.1=false
 | [],_,p,hp=>by cases hp
 | (k,x)::r,h,p,hp=>by
  rcases List.mem_cons.1 hp with rfl|hp
  ·exact h.1
  ·exact Ah h.2 p hp
end Go.Proofs.YtocgkfoifehcbaaGreat

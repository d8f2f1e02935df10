/- A region that draws its order, on abstract states: its values are those of the text's order, if each operation yields its value at every stage of the stores at which it may come. No program in sight. -/
import Derived.Test.YtocgkfoifehcbaaGreatRdAlx
namespace Go.Proofs.YtocgkfoifehcbaaGreat
set_option linter.all false
open Go.RowKit
abbrev g7:=List AS
def oR:=@List.mem_cons_of_mem
def Dk:=@Bool.or_eq_true
def acM:=@Bool.not_eq_true'
def aht:=@Array.all_eq_true_iff_forall_mem
def ahE:=@List.any_eq_true
def akl:=@List.filter_cons
def akN:=@List.mem_filter
def akV:=@List.mem_iff_getElem
def akX:=@Nat.not_lt
def ak1:=@Array.getElem?_replicate
def alb:=@Array.getElem?_eq_none_iff
def alf:=@Bool.false_or
def alk:=@Array.getElem?_setIfInBounds_ne
def alU:=@List.mem_append_left
def amb:=@List.mem_filterMap
def amB:=@List.mem_append_right
def amU:=@wp_region_any
def amZ:=@Bool.or_true
inductive Tag where
 | s (m:Nat)
 | v (lo n:Nat)
 | c (lo n:Nat)
 | a (lo n:Nat)
 | off (lo n:Nat)
 | o (lo n:Nat)
def Tag.gm:Tag→Bool
 | .s _=>false
 | _=>true
def Tag.fa:Tag→Nat×Nat
 | .s m=>(m,0)
 | .v lo n|.c lo n|.a lo n|.off lo n|.o lo n=>(lo,n)
def Tag.L7:Tag→Bool
 | .a _ _|.o _ _=>true
 | _=>false
theorem Tag.ajJ{t:Tag}(h:t.L7=true):t.gm=true:=by cases t<;>first|rfl|cases h
def cZ(o:Oper):ed:=(o.after.toList.filter (Region.binds .any)).map (·.on)
theorem tV{o}{j}:j∈cZ o↔∃e∈o.after,Region.binds .any e=true∧e.on=j:=by
 grind[cZ]
def sK:Tag→Nat→Bool
 | .s m,k=>m == k
 | _,_=>false
def pL(ops:Array Oper)(a:List Tag)(m:Nat):Nat→Nat→Bool
 | 0,j=>match a[j]? with|some b=>sK b m|none=>false
 | k+1,j=>(match a[j]? with|some b=>sK b m|none=>false)||(match ops[j]? with|some c=>(cZ c).any (pL ops a m k)|none=>false)
structure Stat(ops:Array Oper)(tags:List Tag)(K:Nat):Prop where
 len:tags.length≤ops.size
 lex:∀(i:Nat) (o:Oper) (tg:Tag),ops[i]?=some o→tags[i]?=some tg→∀j∈cZ o,j<i
 dst:∀(i:Nat) (o:Oper) (tg:Tag),ops[i]?=some o→tags[i]?=some tg→tg.gm=true→∃(d:Nat),o.dst=some d∧∀(j:Nat) (oj:Oper),ops[j]?=some oj→j≠i→oj.dst≠some d
 xP:∀(i:Nat) (o:Oper) (tg:Tag) (t:Nat),ops[i]?=some o→tags[i]?=some tg→t∈o.looksAt ops→∀(j:Nat) (oj:Oper) (tj:Tag),ops[j]?=some oj→tags[j]?=some tj→tj.gm=true→oj.dst=some t→j∈cZ o
 chain:∀(i:Nat) (o:Oper) (m:Nat),ops[i]?=some o→tags[i]?=some (Tag.s m)→1≤m∧m≤K∧(2≤m→∃j∈cZ o,tags[j]?=some (Tag.s (m-1)))∧∀(j:Nat),tags[j]?=some (Tag.s m)→j=i
 last:K=0∨∃(i:Nat),tags[i]?=some (Tag.s K)
 lo:∀(i:Nat) (o:Oper) (tg:Tag),ops[i]?=some o→tags[i]?=some tg→tg.gm=true→tg.fa.1=0∨∃k,∃j∈cZ o,pL ops tags tg.fa.1 k j=true
 hi:∀(i:Nat) (tg:Tag),tags[i]?=some tg→tg.gm=true→K<tg.fa.1+tg.fa.2∨∃(j:Nat) (oj:Oper),ops[j]?=some oj∧tags[j]?=some (Tag.s (tg.fa.1+tg.fa.2))∧i∈cZ oj
def nZ(ops:Array Oper)(a:List Tag)(K i:Nat)(o:Oper)(b:Tag):Bool :=
 (cZ o).all (fun j=>decide (j<i)) &&
 (!b.gm||(match o.dst with|some d=>(List.range ops.size).all fun j=>j == i||(match ops[j]? with|some e=>e.dst != some d|none=>true)|none=>false)) &&
 ((o.looksAt ops).all fun t=>(List.range ops.size).all fun j=>match ops[j]?,a[j]? with
  | some e,some c=>!c.gm||e.dst != some t||(cZ o).contains j
  | _,_=>true) &&
 (match b with
  | .s m=>decide (1≤m)&&decide (m≤K)&&(decide (m<2)||(cZ o).any fun j=>match a[j]? with|some c=>sK c (m-1)|none=>false) &&
   (List.range ops.size).all fun j=>j == i||(match a[j]? with|some c=>!sK c m|none=>true)
  | _=>true) &&
 (!b.gm||b.fa.1 == 0||((cZ o).any (pL ops a b.fa.1 0)||(cZ o).any (pL ops a b.fa.1 4))) &&
 (!b.gm||decide (K<b.fa.1+b.fa.2)||(List.range ops.size).any fun j=>match ops[j]?,a[j]? with
  | some e,some c=>sK c (b.fa.1+b.fa.2)&&(cZ e).contains i
  | _,_=>false)
def Bc(ops:Array Oper)(a:List Tag)(K m:Nat):Bool :=
 (a.length == m&&Nat.ble m ops.size)&&(List.range m).all fun i=>match ops[i]?,a[i]? with|some o,some b=>nZ ops a K i o b|_,_=>false
def yn(ops:Array Oper)(a:List Tag)(K:Nat):Bool:=Bc ops a K ops.size
def oy(tags:List Tag)(K:Nat):Bool:=K == 0||tags.any (sK · K)
theorem Eb{t}{m}(h:sK t m=true):t=.s m:=by
 cases t<;>simp[sK]at h
 grind
theorem D0{ops:Array Oper}{a:List Tag}{K m:Nat}(h:Bc ops a K m=true)(s:oy a K=true):Stat ops a K∧a.length=m∧m≤ops.size:=by
 unfold Bc at h;simp only[iO,ajC,n3,ag5]at h;obtain⟨⟨G,z⟩,h⟩:=h;have z:=kb z;refine⟨?_,G,z⟩;have g:∀i o k,ops[i]?=some o→a[i]?=some k→nZ ops a K i o k=true:=fun i o k p f=>by
  have hi:i<m:=by rw[←G];exact(jt.1 f).1
  have:=h i hi;simpa only[p,f]using this
 have v:∀i k,a[i]?=some k→∃o,ops[i]?=some o:=fun i k f=>by
  have hi:i<ops.size:=by have:=(jt.1 f).1;omega
  exact⟨_,ll hi⟩
 have H:∀j k,a[j]?=some k→j<ops.size:=fun j k f=>by have:=(jt.1 f).1;omega
 refine⟨by omega,fun i o k p f j q=>?_,fun i o k p f u=>?_,fun i o k t p f C j D E l c B x=>?_,fun i o m p f=>?_,?_,fun i o k p f u=>?_,fun i k f u=>?_⟩
 ·have e:=g i o k p f;unfold nZ at e;simp only[iO]at e;have:=e.1.1.1.1.1;have:=n3.1 this j q;simpa using this
 ·have e:=g i o k p f;unfold nZ at e;simp only[iO]at e;have:=e.1.1.1.1.2;simp only[u,abM,alf]at this;cases x:o.dst with
  | none=>rw[x]at this;cases this
  | some d =>
   rw[x]at this;refine⟨d,rfl,fun j D l A=>?_⟩;have q:j<ops.size:=(q7.1 l).1;have b:=n3.1 this j (ag5.2 q);simp only[l,Dk,ajC,bne_iff_ne]at b;rcases b with b|b
   ·exact(A b).elim
   ·exact b
 ·have e:=g i o k p f;unfold nZ at e;simp only[iO]at e;have b:=e.1.1.1.2;have y:=n3.1 b t C;have r:=n3.1 y j (ag5.2 (H j E c));simp only[l,c,B,x,abM,alf,Dk]at r;rcases r with r|r
  ·simp at r
  ·simpa using r
 ·have e:=g i o _ p f;unfold nZ at e;simp only[iO]at e;have b:=e.1.1.2;simp only[iO,q6,Dk]at b;obtain⟨⟨⟨y,r⟩,w⟩,J⟩:=b;refine⟨y,r,fun I=>?_,fun j c=>?_⟩
  ·rcases w with w|w
   ·omega
   ·obtain⟨j,q,n⟩:=ahE.1 w;cases c:a[j]? with
    | none=>rw[c]at n;cases n
    | some E=>rw[c]at n;exact⟨j,q,by rw[c,Eb n]⟩
  ·have F:=n3.1 J j (ag5.2 (H j _ c));rw[c]at F;simpa[sK]using F
 ·unfold oy at s;simp only[Dk,ajC]at s;rcases s with s|s
  ·exact .inl s
  ·obtain⟨t,f,n⟩:=ahE.1 s;obtain⟨i,hi,rfl⟩:=akV.1 f;exact .inr ⟨i,by rw[j3 hi,Eb n]⟩
 ·have e:=g i o k p f;unfold nZ at e;simp only[iO]at e;have b:=e.1.2;simp only[u,abM,alf,Dk,ajC]at b;rcases b with b|b|b
  ·exact .inl b
  ·obtain⟨j,q,n⟩:=ahE.1 b;exact .inr ⟨_,j,q,n⟩
  ·obtain⟨j,q,n⟩:=ahE.1 b;exact .inr ⟨_,j,q,n⟩
 ·obtain⟨o,p⟩:=v i k f;have e:=g i o k p f;unfold nZ at e;simp only[iO]at e;have b:=e.2;simp only[u,abM,alf,Dk,q6]at b;rcases b with b|b
  ·exact .inl b
  ·obtain⟨j,q,n⟩:=ahE.1 b;cases l:ops[j]? with
   | none=>simp[l]at n
   | some D =>
    cases c:a[j]? with
    | none=>simp[l,c]at n
    | some E =>
     simp only[l,c,iO]at n;exact .inr ⟨j,D,l,by rw[c,Eb n.1],by simpa using n.2⟩
theorem ad4{ops}{a}{K}(h:yn ops a K=true)(b:oy a K=true):Stat ops a K:=(D0 h b).1
theorem ZA{ops}{a}{K}(h:yn ops a K=true)(b:oy a K=true):a.length=ops.size:=(D0 h b).2.1
def ig(a:Array Oper)(s:AS)(c:Bool):Option (Nat×Bool)→Prop
 | none=>c=true
 | some (j,b)=>match a[j]? with
  | some e=>match e.dst with
   | some d=>look d s.t=some (.bool (if c=true then b else !b))∨(c=false∧look d s.t=some (.tup []))
   | none=>False
  | none=>False
def Iu(P:Program)(n:Nat)(s:AS)(o:Oper):Prop :=
 match o.op with
 | .call c=>match c.callee with
  | .value a=>∃f aR l V d,s.ev a=some (.fn f aR)∧dj s c.args.toList=some l∧o.dst=some d∧look d s.t=some V∧d<n∧dV [] l=true∧V.de []=true∧cI P f=true∧aY P f (l.map gu++aR) (fun v _=>v=V)
  | _=>False
 | _=>False
def Gd(P:Program)(n:Nat)(s:AS)(o:Oper):Prop :=
 ∃f a l V d,AY s o=some (f,a,l)∧nX s l∧o.dst=some d∧look d s.t=some V∧d<n∧V.Gb=true∧cI P f=true∧aY P f a (fun v _=>v=V)
def Hi(P:Program)(n:Nat)(ops:Array Oper)(s:AS)(o:Oper):Prop :=
 ∃d c a x b,o.dst=some d∧cc P n s o=some (s.put (some d) (.vv x))∧look d s.t=some (.ref a)∧c≠d∧look c s.t=some (.lk a x)∧look a s.r=some b∧∀(j:Nat) e,ops[j]?=some e→e.dst≠some c
def Qi(P:Program)(n:Nat)(ops:Array Oper)(s:AS)(o:Oper):Prop:=Iu P n s o∨(Gd P n s o∨Hi P n ops s o)
def Ey(P:Program)(n:Nat)(s:AS)(o:Oper)(d:Nat):Prop :=
 match o.op with
 | .call c=>match c.callee with
  | .value a=>∃f aR l V id ar,id<TG∧s.ev a=some (.fn f aR)∧dj s c.args.toList=some l∧dV [] l=true∧cI P f=true∧aY P f (l.map gu++aR) (fun v g=>v=V∧look id g.r=some ar) ∧
   (∀N w ι x,Rel N w ι V x→∃y,ι id=some y)∧look d s.t=some (V.f9 id d)∧look d s.r=some ar∧look d s.o=none∧has s.u d=true
  | _=>False
 | .buildSlice T b parts=>b=0∧parts = #[]∧∃e sz,P.underlying T=some (.slice e)∧cr P e=some sz∧look d s.t=some (.ref d)∧look d s.r=some ⟨e,sz,[]⟩∧look d s.o=none∧has s.u d=true
 | .makeSlice T x y=>∃kd kd' m e sz bytes zc,s.ev x=some (.int kd m)∧s.ev y=some (.int kd' m)∧ja P T=some (e,sz,bytes)∧ey P e=some zc∧fw m bytes=true∧look d s.t=some (.ref d)∧look d s.r=some ⟨e,sz,List.replicate m.toNat (zc.map fT)⟩∧look d s.o=none∧has s.u d=true
 | _=>False
def GK(P:Program)(n:Nat)(ops:Array Oper)(s s':AS)(o:Oper):Prop :=
 ∃e f v0,look e s.t=some (.lk f v0)∧(∀(j:Nat) (g:Oper),ops[j]?=some g→g.dst≠some e) ∧
  ∀(c:Cx),c.P=P→c.n=n→∀(fl:Nat→Bool) (a:Act) (w:World) (ι:Env),aV c (s.tt (cy fl s.t)) a w ι→ι f=some v0→(∀x t,x∈o.op.operands.toList→x=.tmp t→fl t=true) →
   ∀(Kn:Act→World→Prop) (Q:Exit→Act→World→Prop),(∀d w' ι' b,(∀id,some id≠o.dst→ι id=none→ι' id=none)→b.o=s'.o→b.r=s'.r→b.u=s'.u →
    (∀t v,fl t=true∨some t=o.dst→look t s'.t=some v→look t b.t=some v)→aV c b d w' ι'→Kn d w')→o.wp P a w Kn Q
structure mK(P:Program)(n:Nat)(s0:AS)(ops:Array Oper)(tags:List Tag)(K:Nat)(σ:Nat→AS):Prop where
 s:∀(i:Nat) (o:Oper) (m:Nat),ops[i]?=some o→tags[i]?=some (Tag.s (m+1))→ig ops (σ m) true o.guard∧(cc P n (σ m) o=some (σ (m+1))∨GK P n ops (σ m) (σ (m+1)) o)
 v:∀(i:Nat) (o:Oper) (lo:Nat) (k:Nat),ops[i]?=some o→tags[i]?=some (Tag.v lo k)→∀(j:Nat),lo≤j→j<lo+k→ig ops (σ j) true o.guard∧cc P n (σ j) o=some (σ j)
 c:∀(i:Nat) (o:Oper) (lo:Nat) (k:Nat),ops[i]?=some o→tags[i]?=some (Tag.c lo k)→∀(j:Nat),lo≤j→j<lo+k→ig ops (σ j) true o.guard∧Qi P n ops (σ j) o
 a:∀(i:Nat) (o:Oper) (lo:Nat) (k:Nat),ops[i]?=some o→tags[i]?=some (Tag.a lo k)→∃(T:TypeId) (d:Nat) (cs:c6),o.guard=none∧o.op=.alloc T∧o.dst=some d∧d<min n 450000∧has s0.u d=false∧ey P T=some cs ∧
  ∀(j:Nat),lo≤j→j<lo+k→look d (σ j).o=some cs∧look d (σ j).r=none∧look d (σ j).t=some (.ptr d 0)∧has (σ j).u d=true
 off:∀(i:Nat) (o:Oper) (lo:Nat) (k:Nat),ops[i]?=some o→tags[i]?=some (Tag.off lo k)→(∀(j:Nat),lo≤j→j<lo+k→ig ops (σ j) false o.guard∧o.guard≠none)∧∀(d:Nat) (j:Nat),o.dst=some d→j≤K→look d (σ j).t=none∨(look d (σ j).t=some (.tup [])∧d<n)
 o:∀(i:Nat) (o:Oper) (lo:Nat) (k:Nat),ops[i]?=some o→tags[i]?=some (Tag.o lo k)→∃(d:Nat),o.dst=some d∧d<n∧has s0.u d=false∧∀(j:Nat),lo≤j→j<lo+k→ig ops (σ j) true o.guard∧Ey P n (σ j) o d
 i1:∀(id:Nat) (a:cj),look id (σ 0).r=some a→look id s0.r=some a∨has s0.u id=false
 i6:∀(id:Nat) (a:cj),look id (σ 0).r=some a→has (σ 0).u id=true∨look id s0.r=some a
 i2:∀(id:Nat) (cs:c6),look id (σ 0).o=some cs→look id s0.o=some cs∨has s0.u id=false
 i3:∀(id:Nat),s0.u.contains id=true→(σ 0).u.contains id=true
 i4:∀(id:Nat) (cs:c6),look id (σ 0).o=some cs→has (σ 0).u id=true∨look id s0.o=some cs
 i5:∀(t:Nat) (v:AV),look t (σ 0).t=some v→(∃(i:Nat) (o:Oper) (tg:Tag),ops[i]?=some o∧tags[i]?=some tg∧tg.gm=true∧o.dst=some t)∨look t s0.t=some v
theorem HS.Pl{M:Nat→Prop}{P:aB}{w:World}{ι:Env}{s:AS}(h:HS M P w ι s){d:Nat}(N:ι d=none)(I:has s.u d=true)(ho:look d s.o=none){e:TypeId}{sz n:Nat}{l:h6}{vs:eg}(A:look d s.r=some ⟨e,sz,l⟩)(D:l.length=n)(hm:n≤maxLen)(z:vs.length=n*sz)(hz:∀c∈l,c.length=sz)(h1:∀v∈vs,v.oneCell'=true)
  (hc:∀(j:Nat) (c:c6),l[j]?=some c→∀(i:Nat) (x:AV),c[i]?=some x→∃v,vs[j*sz+i]?=some v∧Rel (NN M ι) w bH x v) :
  HS M P (w.alloc (.cells vs.toArray e)) (ext ι d (.slice (some ⟨w.heap.size,0,none⟩) n n)) s:=by
 have B:P.w.heap.size≤w.heap.size:=h.below.size;have F:∀b,b<w.heap.size→¬ NN M ι b→(w.alloc (.cells vs.toArray e)).heap[b]?=w.heap[b]?:=fun b S _=>u7 _ _ _ S;have H:∀b,b<w.heap.size→NN M (ext ι d (.slice (some ⟨w.heap.size,0,none⟩) n n)) b→NN M ι b:=fun b S t=>by
  rcases gk t with t|t
  ·exact t
  ·injection t with t;simp only[]at t;omega
 have K:=fd N (.slice (some ⟨w.heap.size,0,none⟩) n n);refine⟨h.below.alloc B _,h.old,fun i y T=>?_,fun i g m=>?_,fun i E g m f=>?_,h.ko,h.kr,fun i cs hi q=>?_,fun i a hi q=>?_,fun i y q=>⟨K i y (h.pin i y q).1,(h.pin i y q).2⟩⟩
 ·by_cases o:i=d
  ·subst o;exact I
  ·rw[bS _ _ o]at T;exact h.use i y T
 ·by_cases o:i=d
  ·subst o;rw[cJ]at m;injection m with m;simp only[]at m;subst m;exact⟨.inl B,by simp⟩
  ·rw[bS _ _ o]at m;exact⟨(h.own i g m).1,by have:=(h.own i g m).2;simp;omega⟩
 ·by_cases o:i=d
  ·by_cases p:E=d
   ·omega
   ·subst o;rw[cJ]at m;rw[bS _ _ p]at f;injection m with m;simp only[]at m
    have:=(h.own E g f).2;omega
  ·by_cases p:E=d
   ·subst p;rw[cJ]at f;rw[bS _ _ o]at m;injection f with f;simp only[]at f
    have:=(h.own i g m).2;omega
   ·rw[bS _ _ o]at m;rw[bS _ _ p]at f;exact h.inj i E g m f
 ·have o:i≠d:=by rintro rfl;rw[ho]at hi;cases hi
  rw[bS _ _ o]at q;obtain⟨C,T',O,Q,V,W⟩:=h.objs i cs hi q;have L:=(h.own i C (by rw[Q];rfl)).2;exact⟨C,T',O,(bS _ _ o).trans Q,(u7 _ _ _ L).trans V,W.mono (by simp) H F K⟩
 ·by_cases o:i=d
  ·subst o;rw[A]at hi;injection hi with hi;subst hi
   refine⟨_,vs,cJ _ _ _,⟨by simp[z,D],.inr ⟨w.heap.size,n,vs.toArray,by simp[D],u4 _,ame w _,by simp[D],hm,by simpa using z,by simp[D,← z]⟩⟩,hz,h1,fun j c J k x u=>?_⟩;obtain⟨v,hv,A⟩:=hc j c J k x u;exact⟨v,hv,.inl (A.mono (by simp) H F (fun _ _ h=>h))⟩
  ·rw[bS _ _ o]at q;obtain⟨v,xs,R,X,Y,Z,g5⟩:=h.arrs i a hi q;refine⟨v,xs,(bS _ _ o).trans R,fK X (fun C f=>u7 _ _ _ (h.own i C (by rw[R];exact f)).2),Y,Z,fun j U J k c u=>?_⟩;obtain⟨x,hx,A⟩:=g5 j U J k c u;exact⟨x,hx,A.mono (by simp) H F (fun r G=>K _ _ G) (fun r G=>u7 _ _ _ (h.j6 G)) (fun h=>h)⟩
theorem HS.aep{M:Nat→Prop}{L:aB}{w:World}{ι:Env}{s:AS}(h:HS M L w ι s){d:Nat}(X:ι d=none)(G:has s.u d=true)(J:look d s.r=none){T:TypeId}(S:tyName d T){cs:c6}{vs:eg}(V:look d s.o=some cs)(U:Cells (NN M ι) w ι cs vs):
  HS M L (w.alloc (.cells vs.toArray T)) (ext ι d (.pointer (some ⟨w.heap.size,0,none⟩))) s:=by
 have p:L.w.heap.size≤w.heap.size:=h.below.size;have A:∀b,b<w.heap.size→¬ NN M ι b→(w.alloc (.cells vs.toArray T)).heap[b]?=w.heap[b]?:=fun b N _=>u7 _ _ _ N;have F:∀b,b<w.heap.size→NN M (ext ι d (.pointer (some ⟨w.heap.size,0,none⟩))) b→NN M ι b:=fun b N n=>by
  rcases gk n with n|n
  ·exact n
  ·injection n with n;simp only[]at n;omega
 have u:=fd X (.pointer (some ⟨w.heap.size,0,none⟩));refine⟨h.below.alloc p _,h.old,fun i y O=>?_,fun i g l=>?_,fun i z g l f=>?_,h.ko,h.kr,fun i B hi m=>?_,fun i a hi m=>?_,fun i y m=>⟨u i y (h.pin i y m).1,(h.pin i y m).2⟩⟩
 ·by_cases e:i=d
  ·subst e;exact G
  ·rw[bS _ _ e]at O;exact h.use i y O
 ·by_cases e:i=d
  ·subst e;rw[cJ]at l;injection l with l;simp only[]at l;subst l;exact⟨.inl p,by simp⟩
  ·rw[bS _ _ e]at l;exact⟨(h.own i g l).1,by have:=(h.own i g l).2;simp;omega⟩
 ·by_cases e:i=d
  ·by_cases q:z=d
   ·omega
   ·subst e;rw[cJ]at l;rw[bS _ _ q]at f;injection l with l;simp only[]at l
    have:=(h.own z g f).2;omega
  ·by_cases q:z=d
   ·subst q;rw[cJ]at f;rw[bS _ _ e]at l;injection f with f;simp only[]at f
    have:=(h.own i g l).2;omega
   ·rw[bS _ _ e]at l;rw[bS _ _ q]at f;exact h.inj i z g l f
 ·by_cases e:i=d
  ·subst e;rw[V]at hi;injection hi with hi;subst hi
   exact⟨w.heap.size,⟨T,S⟩,vs.toArray,cJ _ _ _,ame w _,by simpa using U.mono (by simp) F A u⟩
  ·rw[bS _ _ e]at m;obtain⟨t,T',K,o,D,E⟩:=h.objs i B hi m;have I:=(h.own i t (by rw[o];rfl)).2;exact⟨t,T',K,(bS _ _ e).trans o,(u7 _ _ _ I).trans D,E.mono (by simp) F A u⟩
 ·by_cases e:i=d
  ·subst e;rw[J]at hi;cases hi
  ·rw[bS _ _ e]at m;obtain⟨v,xs,o,D,E,Q,R⟩:=h.arrs i a hi m;refine⟨v,xs,(bS _ _ e).trans o,fK D (fun t f=>u7 _ _ _ (h.own i t (by rw[o];exact f)).2),E,Q,fun j P W k c H=>?_⟩;obtain⟨x,Y,J⟩:=R j P W k c H;exact⟨x,Y,J.mono (by simp) F A (fun r C=>u _ _ C) (fun r C=>u7 _ _ _ (h.j6 C)) (fun h=>h)⟩
theorem HS.of_eq{M:Nat→Prop}{g:aB}{w:World}{ι:Env}{s s':AS}(h:HS M g w ι s)(m:s.o=s'.o)(n:s.r=s'.r)(o:s.u=s'.u):HS M g w ι s':=by
 obtain⟨i,j,d,k,l,b,c,e,f,a⟩:=h;rw[m]at b e;rw[n]at c f;rw[o]at d b c a;exact⟨i,j,d,k,l,b,c,e,f,a⟩
structure dq(cx:Cx)(ops:Array Oper)(tags:List Tag)(K:Nat)(σ:Nat→AS)(listed:Array Bool)(a:Act) w k ι:Prop where
 sz:listed.size=ops.size
 cl:∀(i:Nat) o,ops[i]?=some o→listed[i]?=some true→∀j∈cZ o,listed[j]?=some true
 kK:k≤K
 wr:∀(i:Nat) m,tags[i]?=some (Tag.s m)→(listed[i]?=some true↔m≤k)
 hs:HS cx.M cx.w0 w ι (σ k)
 al:∀(i:Nat) o tg (d:Nat),ops[i]?=some o→tags[i]?=some tg→tg.L7=true→o.dst=some d→listed[i]?≠some true→ι d=none
 dfr:a.defers=[]
 n:a.tmps.size=cx.n
 tmp:∀t v,look t (σ k).t=some v→(∀(i:Nat) o tg,ops[i]?=some o→tags[i]?=some tg→tg.gm=true→o.dst=some t→listed[i]?=some true)→∃x,a.tmps[t]?=some x∧Rel (NN cx.M ι) w ι v x
section
variable{f:Cx}{ops:Array Oper}{c:List Tag}{K:Nat}{σ:Nat→AS}{listed:Array Bool}{a:Act}{w:World}{k:Nat}{ι:Env}{g:AS}
theorem dI{i j}(a:i<listed.size):(listed.setIfInBounds i true)[j]?=some true↔j=i∨listed[j]?=some true:=by
 grind
theorem dq.uI(y:Stat ops c K)(h:dq f ops c K σ listed a w k ι){i:Nat}{o:Oper}{d:Tag}(C:ops[i]?=some o)(x:c[i]?=some d)(v:d.gm=true)(s:listed[i]?≠some true)(n:∀j∈cZ o,listed[j]?=some true):
  d.fa.1≤k∧k<d.fa.1+d.fa.2:=by
 constructor
 ·rcases y.lo i o d C x v with B|⟨q,j,p,b⟩
  ·omega
  ·have key:∀(q j:Nat),pL ops c d.fa.1 q j=true→listed[j]?=some true→d.fa.1≤k:=by
    have m:∀j:Nat,(match c[j]? with|some A=>sK A d.fa.1|none=>false)=true→listed[j]?=some true→d.fa.1≤k:=fun j b l=>by
     cases g:c[j]? with
     | none=>rw[g]at b;cases b
     | some A=>rw[g]at b;exact(h.wr j _ (by rw[g,Eb b])).1 l
    intro q
    induction q with
    | zero=>intro j b l;unfold pL at b;exact m j b l
    | succ q E =>
     intro j b l;unfold pL at b;rw[Dk]at b;rcases b with b|b
     ·exact m j b l
     ·cases e:ops[j]? with
      | none=>rw[e]at b;cases b
      | some t =>
       rw[e]at b;obtain⟨z,D,b⟩:=ahE.1 b;exact E z b (h.cl j t e l z D)
   exact key q j b (n j p)
 ·rcases y.hi i d x v with B|⟨j,t,e,b,hi⟩
  ·have:=h.kK;omega
  ·have u:¬ (d.fa.1+d.fa.2≤k):=fun r=>by
    have p:=(h.wr j _ b).2 r;exact s (h.cl j t e p i hi)
   omega
def N8(ops:Array Oper)(c:List Tag)(listed:Array Bool)(t:Nat):Prop:=∀(i:Nat) o a,ops[i]?=some o→c[i]?=some a→a.gm=true→o.dst=some t→listed[i]?=some true
open Classical in
noncomputable def eR(ops:Array Oper)(c:List Tag)(listed:Array Bool):Nat→Bool:=fun t=>decide (N8 ops c listed t)
theorem kX{t:Nat}:eR ops c listed t=true↔N8 ops c listed t:=by
 unfold eR;exact @decide_eq_true_iff _ (Classical.propDecidable _)
theorem dq.LK(h:dq f ops c K σ listed a w k ι):aV f ((σ k).tt (cy (eR ops c listed) (σ k).t)) a w ι :=
 ⟨h.hs.of_eq rfl rfl rfl,h.dfr,h.n,fun t v e=>by
  have b:look t (cy (eR ops c listed) (σ k).t)=some v:=e;rw[eX]at b;split at b
  ·rename_i d;exact h.tmp t v b (kX.1 d)
  ·cases b⟩
theorem dq.xP(s:Stat ops c K)(h:dq f ops c K σ listed a w k ι){i:Nat}{o:Oper}{l:Tag}(n:ops[i]?=some o)(e:c[i]?=some l)(b:∀j∈cZ o,listed[j]?=some true){t:Nat}(q:t∈o.looksAt ops):eR ops c listed t=true :=
 kX.2 fun j r u d g p m=>b j (s.xP i o l t n e q j r u d g p m)
theorem Wx{o:Oper}{x:Operand}{t:Nat}(a:x∈o.op.operands.toList)(e:x=.tmp t):t∈o.looksAt ops:=by
 subst e;unfold Oper.looksAt;exact alU _ (amb.2 ⟨_,a,rfl⟩)
theorem dq.wanted(y:Stat ops c K)(h:dq f ops c K σ listed a w k ι){i:Nat}{o:Oper}{z:Tag}(v:ops[i]?=some o)(n:c[i]?=some z)(l:∀j∈cZ o,listed[j]?=some true){t:Bool}(e:ig ops (σ k) t o.guard):Region.wanted o (yielded ops a.tmps)=t:=by
 unfold ig at e;split at e
 ·rename_i m;simp[Region.wanted,m,e]
 ·rename_i j b m;split at e
  ·rename_i A g;split at e
   ·rename_i d p;have u:d∈o.looksAt ops:=by
     unfold Oper.looksAt;refine amB _ ?_;simp[m,g,p]
    rcases e with e|⟨q,e⟩
    ·obtain⟨x,s,r⟩:=h.tmp d _ e (kX.1 (h.xP y v n l u));cases r;cases t<;>cases b<;>simp[Region.wanted,m,yielded,g,p,s]
    ·obtain⟨x,s,r⟩:=h.tmp d _ e (kX.1 (h.xP y v n l u));cases r;subst q;cases b<;>simp[Region.wanted,m,yielded,g,p,s]
   ·cases e
  ·cases e
theorem dq.step(st:Stat ops c K)(h:dq f ops c K σ listed a w k ι){i:Nat}{o:Oper}{P:Tag}(B:ops[i]?=some o)(T:c[i]?=some P)(S:P.gm=true)(E:∀j∈cZ o,listed[j]?=some true){d:Nat}(R:o.dst=some d)
  {w':World} {ι':Env} {x:Value} (N:HS f.M f.w0 w' ι' (σ k)) (H:∀id,id≠d→ι id=none→ι' id=none) (Y:∀v,look d (σ k).t=some v→Rel (NN f.M ι') w' ι' v x) (D:(look d (σ k).t).isSome=true→d<f.n)
  (X:∀t v y,t≠d→look t (σ k).t=some v→Rel (NN f.M ι) w ι v y→Rel (NN f.M ι') w' ι' v y):dq f ops c K σ (listed.setIfInBounds i true) (a.put (some d) x) w' k ι':=by
 have hi:i<listed.size:=by rw[h.sz];exact(q7.1 B).1
 obtain⟨C,n,r⟩:=st.dst i o P B T S;rw[R]at n;injection n with n;subst n
 refine⟨by simp[h.sz],fun j s b q U u=>?_,h.kK,fun j m l=>?_,N,fun j s Q C b q I g z=>?_,h.dfr,by simp[Act.put,h.n],fun t v p J=>?_⟩
 ·rw[dI hi]at q⊢;rcases q with rfl|q
  ·rw[B]at b;injection b with b;subst b
   exact .inr (E U u)
  ·exact .inr (h.cl j s b q U u)
 ·rw[dI hi];constructor
  ·rintro (rfl|q)
   ·rw[T]at l;injection l with l;subst l;cases S
   ·exact(h.wr j m l).1 q
  ·intro G;exact .inr ((h.wr j m l).2 G)
 ·have F:j≠i:=by rintro rfl;exact z ((dI hi).2 (.inl rfl))
  have A:listed[j]?≠some true:=fun W=>z ((dI hi).2 (.inr W));refine H C ?_ (h.al j s Q C b q I g A)
  rintro rfl
  exact r j s b F g
 ·by_cases e:t=d
  ·subst e;exact⟨x,by have:=D (by rw[p];rfl);simp[Act.put,h.n,this],Y v p⟩
  ·obtain⟨y,Z,M⟩:=h.tmp t v p (fun j s tj b O L g=>by
    have:=J j s tj b O L g;rw[dI hi]at this;rcases this with rfl|this
    ·rw[B]at b;injection b with b;subst b
     rw[R]at g;injection g with g;exact(e g.symm).elim
    ·exact this)
   exact⟨y,by simp only[Act.put];rw[alk (fun V=>e V.symm)];exact Z,X t v y e p M⟩
end
section
variable{u:Cx}{ops:Array Oper}{p:List Tag}{K:Nat}{σ:Nat→AS}{listed:Array Bool}{a:Act}{w:World}{k:Nat}{ι:Env}{B:AS}
theorem lF{i:Nat}(h:i∈Region.ready .any ops listed):listed[i]?≠some true∧∃o,ops[i]?=some o∧∀j∈cZ o,listed[j]?=some true:=by
 unfold Region.ready at h;simp only[akN,ag5,iO,acM]at h;obtain⟨hi,d,c⟩:=h;have g:=ll (xs:=ops) hi;rw[g]at c;simp only[aa3,aag,aht,Dk,acM]at c;refine⟨fun m=>?_,_,g,fun j n=>?_⟩
 ·rw[v9,m]at d;cases d
 ·obtain⟨e,l,k,rfl⟩:=tV.1 n;rcases c e l with a|a
  ·rw[k]at a;cases a
  ·rw[v9]at a;cases f:listed[e.on]? with
   | none=>rw[f]at a;cases a
   | some b=>rw[f]at a;simp only[aag]at a;rw[a]
theorem agk(o:Stat ops p K)(a:p.length=ops.size)(m:listed.size=ops.size)(h:Region.ready .any ops listed=[]):∀i,i<ops.size→listed[i]?=some true:=by
 intro i
 induction i using Nat.strongRecOn with
 | _ i n =>
  intro hi;have j:=ll (xs:=ops) hi;cases f:listed[i]? with
  | none=>rw[alb]at f;omega
  | some b =>
   cases b with
   | true=>rfl
   | false =>
    exfalso;have g:i∈Region.ready .any ops listed:=by
     unfold Region.ready;simp only[akN,ag5,iO,acM];refine⟨hi,by rw[v9,f];rfl,?_⟩;rw[j];simp only[aa3,aag,aht,Dk,acM];intro e k;by_cases d:Region.binds .any e=true
     ·right;have l:e.on∈cZ ops[i]:=tV.2 ⟨e,k,d,rfl⟩;have c:=o.lex i _ _ j (j3 (by rw[a];exact hi)) e.on l;rw[v9,n e.on c (by omega)];rfl
     ·left;simpa using d
    rw[h]at g;cases g
def jD(listed:Array Bool):Nat:=(listed.toList.filter (fun b=>!b)).length
theorem Aq{i:Nat}(h:listed[i]?=some false):jD (listed.setIfInBounds i true)+1=jD listed:=by
 have hi:i<listed.size:=(q7.1 h).1;have c:listed.toList[i]'(by simpa using hi)=false:=by have:=(q7.1 h).2;simpa using this
 unfold jD;rw[al7];have key:∀(l:List Bool) (i:Nat) (hi:i<l.length),l[i]=false→((l.set i true).filter (fun b=>!b)).length+1=(l.filter (fun b=>!b)).length:=by
  intro l
  induction l with
  | nil=>intro i hi _;simp at hi
  | cons b r d =>
   intro i hi a;cases i with
   | zero=>simp at a;subst a;simp
   | succ i =>
    simp only[List.set_cons_succ,akl];have:=d i (by simpa using hi) (by simpa using a);split<;>(try simp only[ls])<;>omega
 exact key _ i (by simpa using hi) c
theorem y5(h:jD listed=0)(i:Nat)(hi:i<listed.size):listed[i]?=some true:=by
 unfold jD at h;have c:=qk h;rw[ll hi];congr 1;cases a:listed[i] with
 | true=>rfl
 | false =>
  exfalso;have:listed[i]∈listed.toList.filter (fun b=>!b):=akN.2 ⟨by simp,by simp[a]⟩;rw[c]at this;cases this
theorem dq.one{Q':Exit→Act→World→Prop}{X:Act→World→Prop}(st:Stat ops p K)(dy:mK u.P u.n B ops p K σ)(h:dq u ops p K σ listed a w k ι){i:Nat}(o0:i<p.length)(hi:i∈Region.ready .any ops listed)
  (hK:∀a' w' k' ι',dq u ops p K σ (listed.setIfInBounds i true) a' w' k' ι'→X a' w'):wpOp u.P ops Q' i X a w:=by
 obtain⟨i0,o,J,H⟩:=lF hi;have n2:i<ops.size:=(q7.1 J).1;have C:=j3 (l:=p) (i:=i) o0;generalize p[i]'o0=tg at C;have M:=h.LK;have U:∀x t,x∈o.op.operands.toList→x=.tmp t→eR ops p listed t=true:=fun x t hx e=>h.xP st J C H (Wx hx e);unfold wpOp;simp only[J]
 -- what an operation of the list 'aop' does
 have q0:∀{s':AS},cc u.P u.n (σ k) o=some s'→∃ι',(∀id,some id≠o.dst→ι id=none→ι' id=none)∧∃s2,s2.o=s'.o∧s2.r=s'.r∧s2.u=s'.u∧(∀t v,eR ops p listed t=true∨some t=o.dst→look t s'.t=some v→look t s2.t=some v) ∧
   ∃a' w',aV u s2 a' w' ι'∧(∀R:Act→World→Prop,R a' w'→o.wp u.P a w R Q'):=by
  intro s' x0;obtain⟨s2,f1,f2,f3,f4,f5⟩:=acC (ok:=eR ops p listed) x0 U;obtain⟨ι',g1,g2⟩:=Qk M f1;refine⟨ι',g1,s2,f2,f3,f4,f5,?_⟩;obtain⟨x,w',hr,F⟩|⟨w',hr,F⟩:=g2
  ·exact⟨_,_,F,fun R hR=>by unfold Oper.wp;rw[hr];exact hR⟩
  ·exact⟨_,_,F,fun R hR=>by unfold Oper.wp;rw[hr];exact hR⟩
 have O1:∀{m},tg=.s m→∀j m',p[j]?=some (.s m')→j≠i→m'≠m:=fun e j m' Y z1 e'=>by
  subst e;subst e';exact z1 ((st.chain i o _ J C).2.2.2 j Y)
 have G:i<listed.size:=by rw[h.sz];exact n2
 cases tg with
 | s m =>
  obtain⟨L2,p2,p1,c0⟩:=st.chain i o m J C;have r2:m=k+1:=by
   have h1:¬ m≤k:=fun s0=>i0 ((h.wr i m C).2 s0);have h2:m≤k+1:=by
    by_cases c2:2≤m
    ·obtain⟨j,Y,hs⟩:=p1 c2;have:=(h.wr j _ hs).1 (H j Y);omega
    ·omega
   omega
  subst r2;obtain⟨hg,W⟩:=dy.s i o k J C;have hw:Region.wanted o (yielded ops a.tmps)=true:=h.wanted st J C H hg;rw[lp hw];have w1:∀a' w' ι' s2,(∀id,some id≠o.dst→ι id=none→ι' id=none)→s2.o=(σ (k+1)).o→s2.r=(σ (k+1)).r→s2.u=(σ (k+1)).u →
    (∀t v,eR ops p listed t=true∨some t=o.dst→look t (σ (k+1)).t=some v→look t s2.t=some v)→aV u s2 a' w' ι'→dq u ops p K σ (listed.setIfInBounds i true) a' w' (k+1) ι':=fun a' w' ι' s2 g1 e1 e2 e3 e4 F=>by
   refine⟨by simp[h.sz],fun j oj r Y j' g0=>?_,p2,fun j m' S=>?_,F.hs.of_eq e1 e2 e3,fun j oj d1 d' r Y t0 E a0=>?_,F.dfr,F.n,fun t v hv S0=>?_⟩
   ·rw[dI G]at Y⊢;rcases Y with rfl|Y
    ·rw[J]at r;injection r with r;subst r;exact .inr (H j' g0)
    ·exact .inr (h.cl j oj r Y j' g0)
   ·rw[dI G];by_cases e:j=i
    ·subst e;rw[C]at S;injection S with S;injection S with S;subst S;simp
    ·have:=h.wr j m' S;have z1:=O1 rfl j m' S e;constructor
     ·rintro (h1|h1)
      ·exact(e h1).elim
      ·have:=this.1 h1;omega
     ·intro s0;exact .inr (this.2 (by omega))
   ·have A0:j≠i:=by rintro rfl;exact a0 ((dI G).2 (.inl rfl))
    have k0:listed[j]?≠some true:=fun Q=>a0 ((dI G).2 (.inr Q));refine g1 d' (fun e=>?_) (h.al j oj d1 d' r Y t0 E k0);obtain⟨d2,j1,y2⟩:=st.dst j oj _ r Y (Tag.ajJ t0);rw[E]at j1;injection j1 with j1;subst j1
    exact y2 i o J (fun e'=>A0 e'.symm) e.symm
   ·refine F.tmp t v (e4 t v (.inl (kX.2 fun j oj tj r d0 w0 E=>?_)) hv);have:=S0 j oj tj r d0 w0 E;rw[dI G]at this;rcases this with rfl|this
    ·rw[C]at d0;injection d0 with d0;subst d0;cases w0
    ·exact this
  rcases W with W|⟨dl,iv,v0,q1,q2,q3⟩
  ·obtain⟨ι',g1,s2,e1,e2,e3,e4,a',w',F,c1⟩:=q0 W;exact .inl (c1 _ (hK a' w' (k+1) ι' (w1 a' w' ι' s2 g1 e1 e2 e3 e4 F)))
  ·have T0:eR ops p listed dl=true:=kX.2 fun j oj tj r _ _ E=>(q2 j oj r E).elim;obtain⟨y,_,hr⟩:=M.tmp dl (.lk iv v0) (by show look dl (cy _ _)=_;rw[eX,lp T0];exact q1);cases hr with
   | lk _ _ _ _ hv _ =>
    exact .inl (q3 u rfl rfl _ a w ι M hv U _ Q' (fun a' w' ι' s2 g1 e1 e2 e3 e4 F=>hK a' w' (k+1) ι' (w1 a' w' ι' s2 g1 e1 e2 e3 e4 F)))
 | v lo n =>
  obtain⟨s1,e0⟩:=h.uI st J C rfl i0 H;obtain⟨hg,W⟩:=dy.v i o lo n J C k s1 e0;have hw:=h.wanted st J C H hg;rw[lp hw];obtain⟨d,hd,c0⟩:=st.dst i o _ J C rfl;obtain⟨ι',g1,s2,e1,e2,e3,e4,a',w',F,c1⟩:=q0 W;refine .inl (c1 _ (hK a' w' k ι' ?_));refine⟨by simp[h.sz],fun j oj r Y j' g0=>?_,h.kK,fun j m' S=>?_,F.hs.of_eq e1 e2 e3,fun j oj d1 d' r Y t0 E a0=>?_,F.dfr,F.n,fun t v hv S0=>?_⟩
  ·rw[dI G]at Y⊢;rcases Y with rfl|Y
   ·rw[J]at r;injection r with r;subst r;exact .inr (H j' g0)
   ·exact .inr (h.cl j oj r Y j' g0)
  ·rw[dI G];have e:j≠i:=by rintro rfl;rw[C]at S;cases S
   have:=h.wr j m' S;constructor
   ·rintro (h1|h1)
    ·exact(e h1).elim
    ·exact this.1 h1
   ·intro s0;exact .inr (this.2 s0)
  ·have A0:j≠i:=by rintro rfl;exact a0 ((dI G).2 (.inl rfl))
   have k0:listed[j]?≠some true:=fun Q=>a0 ((dI G).2 (.inr Q));refine g1 d' (fun e=>?_) (h.al j oj d1 d' r Y t0 E k0);rw[hd]at e;injection e with e;subst e
   exact c0 j oj r A0 E
  ·refine F.tmp t v (e4 t v ?_ hv);by_cases e:t=d
   ·right;rw[hd,e]
   ·left;refine kX.2 fun j oj tj r d0 w0 E=>?_;have:=S0 j oj tj r d0 w0 E;rw[dI G]at this;rcases this with rfl|this
    ·rw[J]at r;injection r with r;subst r
     rw[hd]at E;injection E with E;exact(e E.symm).elim
    ·exact this
 | c lo n =>
  obtain⟨s1,e0⟩:=h.uI st J C rfl i0 H;obtain⟨hg,W⟩:=dy.c i o lo n J C k s1 e0;have hw:=h.wanted st J C H hg;rw[lp hw];rcases W with W|W|W
  case inr.inr =>
   obtain⟨d,dl,u1,x,b,hd,W,p0,k2,o2,u2,t2⟩:=W;obtain⟨d',i1,c0⟩:=st.dst i o _ J C rfl;rw[hd]at i1;injection i1 with i1;subst i1
   obtain⟨ι',g1,s2,e1,e2,e3,e4,a',w',F,c1⟩:=q0 W;have T0:eR ops p listed dl=true:=kX.2 fun j oj tj r _ _ E=>(t2 j oj r E).elim;have hx:ι' u1=some x:=by
    obtain⟨y,_,hr⟩:=F.tmp dl (.lk u1 x) (e4 dl _ (.inl T0) (by simp only[AS.put,cn];rw[kc k2];exact o2));cases hr with
    | lk _ _ _ _ h _=>exact h
   refine .inl (c1 _ (hK a' w' k ι' ?_));refine⟨by simp[h.sz],fun j oj r Y j' g0=>?_,h.kK,fun j m' S=>?_,F.hs.of_eq e1 e2 e3,fun j oj d1 d' r Y t0 E a0=>?_,F.dfr,F.n,fun t v hv S0=>?_⟩
   ·rw[dI G]at Y⊢;rcases Y with rfl|Y
    ·rw[J]at r;injection r with r;subst r;exact .inr (H j' g0)
    ·exact .inr (h.cl j oj r Y j' g0)
   ·rw[dI G];have e:j≠i:=by rintro rfl;rw[C]at S;cases S
    have:=h.wr j m' S;constructor
    ·rintro (h1|h1)
     ·exact(e h1).elim
     ·exact this.1 h1
    ·intro s0;exact .inr (this.2 s0)
   ·have A0:j≠i:=by rintro rfl;exact a0 ((dI G).2 (.inl rfl))
    have k0:listed[j]?≠some true:=fun Q=>a0 ((dI G).2 (.inr Q));refine g1 d' (fun e=>?_) (h.al j oj d1 d' r Y t0 E k0);rw[hd]at e;injection e with e;subst e
    exact c0 j oj r A0 E
   ·by_cases e:t=d
    ·subst e;rw[p0]at hv;injection hv with hv;subst hv
     obtain⟨y,hy,hr⟩:=F.tmp t (.vv x) (e4 t _ (.inr hd.symm) (by simp[AS.put,cn]));refine⟨y,hy,?_⟩;cases hr;obtain⟨v,xs,q1,q2,_⟩:=F.hs.arrs u1 b (by rw[e2];exact u2) (by rw[hx];rfl);rw[hx]at q1;injection q1 with q1;subst q1
     obtain⟨A',m,c,rfl⟩:∃A m c,x=.slice A m c:=by
      rcases q2.2 with⟨hv,_⟩|⟨_,_,_,hv,_⟩<;>exact⟨_,_,_,hv⟩
     exact .ref _ _ _ _ _ hx
    ·refine F.tmp t v (e4 t v (.inl ?_) (by simp only[AS.put,cn];rw[kc e];exact hv));refine kX.2 fun j oj tj r d0 w0 E=>?_;have:=S0 j oj tj r d0 w0 E;rw[dI G]at this;rcases this with rfl|this
     ·rw[J]at r;injection r with r;subst r
      rw[hd]at E;injection E with E;exact(e E.symm).elim
     ·exact this
  case inr.inl =>
   obtain⟨f,v1,l,V,d,h1,v2,a3,a4,a5,a7,a8,a9⟩:=W;have S1:AY ((σ k).tt (cy (eR ops p listed) (σ k).t)) o=some (f,v1,l):=by
    unfold AY at h1⊢;split at h1
    case h_2=>cases h1
    rename_i cl L;split at h1
    case h_2=>cases h1
    rename_i fo O;have e1:((σ k).tt (cy (eR ops p listed) (σ k).t)).ev fo=(σ k).ev fo:=by
     cases fo with
     | tmp t =>
      show look t (cy _ _)=look t _;rw[eX,lp (U (.tmp t) t (by simp[L,Op.operands,Call.operands,O]) rfl)]
     | const v=>rfl
     | func g=>rfl
     | global g=>rfl
    have e2:dj ((σ k).tt (cy (eR ops p listed) (σ k).t)) cl.args.toList=dj (σ k) cl.args.toList:=pF (fun x hx=>by
     cases x with
     | tmp t =>
      show look t (cy _ _)=look t _;rw[eX,lp (U (.tmp t) t (by simp[L,Op.operands,Call.operands,O];exact .inr (In.1 hx)) rfl)]
     | const v=>rfl
     | func g=>rfl
     | global g=>rfl)
    simp only[L,O,e1,e2,Nx];exact h1
   left;have i2:=abg (R:=Q') a9 a8 S1 (Kz _ _ l v2) M (K:=X) (fun x v s1 ι1 w' hv b0 hr=>by
    subst hv;rw[a3];refine hK _ _ k ι (h.step st J C rfl H a3 (h.hs.mL b0.below.plain) (fun _ _ h=>h) (fun v' D=>?_) (fun _=>a5) (fun t v' y _ _ Z=>Z.mono b0.below.plain.size (fun b _ hb=>hb) (fun b p0 _=>b0.below.plain.block b p0) (fun _ _ h=>h)));rw[a4]at D;injection D with D;subst D;exact TE a7 hr)
   exact i2
  case inl =>
  unfold Iu at W;split at W
  ·rename_i cl L;split at W
   ·rename_i fo O;obtain⟨f,aR,l,V,d,a1,a2,a3,a4,a5,a6,a7,a8,a9⟩:=W;have n1:((σ k).tt (cy (eR ops p listed) (σ k).t)).ev fo=some (.fn f aR):=by
     cases fo with
     | tmp t =>
      show look t (cy _ _)=_;rw[eX,lp (U (.tmp t) t (by simp[L,Op.operands,Call.operands,O]) rfl)];exact a1
     | const v=>exact a1
     | func g=>exact a1
     | global g=>exact a1
    have hl:dj ((σ k).tt (cy (eR ops p listed) (σ k).t)) cl.args.toList=some l:=by
     rw[pF];exact a2;intro x hx;cases x with
     | tmp t =>
      show look t (cy _ _)=look t _;rw[eX,lp (U (.tmp t) t (by simp[L,Op.operands,Call.operands,O];exact .inr (In.1 hx)) rfl)]
     | const v=>rfl
     | func g=>rfl
     | global g=>rfl
    left;unfold Oper.wp;obtain⟨ys,r1,l1,m1⟩:=kF M L O n1 a8;rw[r1,ahR];refine (a9 (NN u.M ι) w _ (fun b hb=>ml M.hs hb) (y9 M hl a6 l1 m1)).mono ?_
    rintro e w' ⟨x,v,s3,ι1,rfl,rfl,b0,hr⟩
    have h3:Rel (NN u.M ι) w' ι v x:=(hr.pure a7 ι).mono (la _) (fun b _ hb=>.inl hb) (fun _ _ _=>rfl) (fun _ _ h=>h);rw[a3];refine hK _ _ k ι (h.step st J C rfl H a3 (h.hs.mL b0.below.plain) (fun _ _ h=>h) (fun v' D=>?_) (fun _=>a5) (fun t v' y _ _ Z=>Z.mono b0.below.plain.size (fun b _ hb=>hb) (fun b p0 _=>b0.below.plain.block b p0) (fun _ _ h=>h)));rw[a4]at D;injection D with D;subst D;exact h3
   ·exact W.elim
  ·exact W.elim
 | a lo n =>
  obtain⟨s1,e0⟩:=h.uI st J C rfl i0 H;obtain⟨T,d,cs,x1,L,hd,l2,m2,hz,f0⟩:=dy.a i o lo n J C;obtain⟨b1,b2,b3,b4⟩:=f0 k s1 e0;have hw:Region.wanted o (yielded ops a.tmps)=true:=by simp[Region.wanted,x1]
  rw[lp hw];have I:=h.al i o _ d J C rfl hd i0;unfold ey at hz;cases o0:u.P.info? T with
  | none=>simp[o0]at hz
  | some it =>
   cases t1:it.zero with
   | none=>simp[o0,t1]at hz
   | some zv =>
    simp only[o0,iN,t1]at hz;have hc:=lj (NN u.M ι) w ι hz;left;have l0:(execOp a.eval o).run u.P w=.ok (.value (.pointer (some ⟨w.heap.size,0,none⟩))) (w.alloc (.cells zv.cells T)):=by
     unfold execOp;simp[L,Instr.alloc,zeroValue,typeInfo,o0,t1,newVar,newRow]
    unfold Oper.wp;rw[l0];show X _ _;rw[hd];have x0:=h.hs.aep (d:=d) I b4 b2 (T:=T) (fun q=>by omega) b1 hc;simp only[aiU]at x0;refine hK _ _ k _ (h.step st J C rfl H hd x0 (fun id m0 hn=>(bS _ _ m0).trans hn) (fun v' D=>?_) (fun _=>wl l2 (Nat.min_le_left _ _)) (fun t v' y _ _ Z=>Z.mono (by simp) (fun b hb Q=>?_) (fun b hb _=>u7 _ _ _ hb) (fd I _)))
    ·rw[b3]at D;injection D with D;subst D;exact .ptr _ _ _ _ (cJ _ _ _)
    ·rcases gk Q with Q|Q
     ·exact Q
     ·injection Q with Q;simp only[]at Q;omega
 | o lo n =>
  obtain⟨s1,e0⟩:=h.uI st J C rfl i0 H;obtain⟨d,a3,a5,m2,f0⟩:=dy.o i o lo n J C;obtain⟨hg,W⟩:=f0 k s1 e0;have hw:=h.wanted st J C H hg;rw[lp hw];have I:=h.al i o _ d J C rfl a3 i0;unfold Ey at W;split at W
  ·rename_i cl L;split at W
   ·rename_i fo O;obtain⟨f,aR,l,V,id,ar,y1,a1,a2,a6,a8,a9,L1,hT,hR,hO,hU⟩:=W;have n1:((σ k).tt (cy (eR ops p listed) (σ k).t)).ev fo=some (.fn f aR):=by
     cases fo with
     | tmp t =>
      show look t (cy _ _)=_;rw[eX,lp (U (.tmp t) t (by simp[L,Op.operands,Call.operands,O]) rfl)];exact a1
     | const v=>exact a1
     | func g=>exact a1
     | global g=>exact a1
    have hl:dj ((σ k).tt (cy (eR ops p listed) (σ k).t)) cl.args.toList=some l:=by
     rw[pF];exact a2;intro x hx;cases x with
     | tmp t =>
      show look t (cy _ _)=look t _;rw[eX,lp (U (.tmp t) t (by simp[L,Op.operands,Call.operands,O];exact .inr (In.1 hx)) rfl)]
     | const v=>rfl
     | func g=>rfl
     | global g=>rfl
    left;unfold Oper.wp;obtain⟨ys,r1,l1,m1⟩:=kF M L O n1 a8;rw[r1,ahR];refine (a9 (NN u.M ι) w _ (fun b hb=>ml M.hs hb) (y9 M hl a6 l1 m1)).mono ?_
    rintro e w' ⟨x,v,s3,ι1,rfl,⟨rfl,o1⟩,b0,hr⟩
    obtain⟨y,hy⟩:=L1 _ _ _ _ hr;obtain⟨y0,j2⟩:=h.hs.ZD b0 y1 hy o1 I hU hO hR;have h3:Rel (NN u.M (ext ι d y)) w' (ext ι d y) (v.f9 id d) x:=hr.f9 j2 (fun z hz=>by rw[hy]at hz;injection hz with hz;subst hz;exact cJ _ _ _);rw[a3];refine hK _ _ k _ (h.step st J C rfl H a3 y0 (fun S2 m0 hn=>(bS _ _ m0).trans hn) (fun v' D=>?_) (fun _=>a5) (fun t v' y' _ _ Z=>Z.mono b0.below.plain.size (fun b hb Q=>?_) (fun b p0 _=>b0.below.plain.block b p0) (fd I _)))
    ·rw[hT]at D;injection D with D;subst D;exact h3
    ·rcases gk Q with Q|Q
     ·exact Q
     ·rcases (b0.own id b (by rw[hy];exact Q)).1 with h9|h9;exact absurd hb (akX.2 h9);exact h9.elim
   ·exact W.elim
  ·rename_i T n' parts L;obtain⟨rfl,rfl,e,sz,x2,hz,hT,hR,hO,hU⟩:=W;left;have x0:(sizeOf e).run u.P w=.ok sz w:=by
    cases hi:u.P.info? e with
    | none=>simp[cr,hi]at hz
    | some it =>
     have : it.size=sz:=by simpa[cr, hi]using hz
     simp[sizeOf,typeInfo,hi,this]
   have l0:(execOp a.eval o).run u.P w=.ok (.value (.slice (some ⟨w.heap.size,0,none⟩) 0 0)) (w.alloc (.cells #[] e)):=by
    unfold execOp;have r0:Array.range 0 = #[]:=rfl;simp[L,Instr.buildSlice,ob x2,x0,Instr.fill,newRow,r0]
   unfold Oper.wp;rw[l0];show X _ _;rw[a3];have y0:=h.hs.Pl (vs:=[]) I hU hO hR rfl (u4 _) (by simp) (fun c hc=>(by cases hc)) (fun v hv=>(by cases hv)) (fun j c Y=>by simp at Y);simp only[ti]at y0;refine hK _ _ k _ (h.step st J C rfl H a3 y0 (fun id m0 hn=>(bS _ _ m0).trans hn) (fun v' D=>?_) (fun _=>a5) (fun t v' y _ _ Z=>Z.mono (by simp) (fun b hb Q=>?_) (fun b hb _=>u7 _ _ _ hb) (fd I _)))
   ·rw[hT]at D;injection D with D;subst D;exact .ref _ _ _ _ _ (cJ _ _ _)
   ·rcases gk Q with Q|Q
    ·exact Q
    ·injection Q with Q;simp only[]at Q;omega
  ·rename_i T x y L;obtain⟨kd,kd',m,e,sz,bytes,zc,hx,hy,w2,hz,hb,hT,hR,hO,hU⟩:=W;have z2:((σ k).tt (cy (eR ops p listed) (σ k).t)).ev x=some (.int kd m):=by
    cases x with
    | tmp t=>show look t (cy _ _)=_;rw[eX,lp (U (.tmp t) t (by simp[L,Op.operands]) rfl)];exact hx
    | const v=>exact hx
    | func g=>exact hx
    | global g=>exact hx
   have D2:((σ k).tt (cy (eR ops p listed) (σ k).t)).ev y=some (.int kd' m):=by
    cases y with
    | tmp t=>show look t (cy _ _)=_;rw[eX,lp (U (.tmp t) t (by simp[L,Op.operands]) rfl)];exact hy
    | const v=>exact hy
    | func g=>exact hy
    | global g=>exact hy
   left;obtain⟨vs,l0,q1,q2,q3,q4,q5⟩:=M6 (P:=u.P) (N:=NN u.M ι) w w2 hz hb kd kd';unfold Oper.wp execOp;simp only[L,sj,lV M z2,lV M D2,l0,u5,Qf];show X _ _;rw[a3];have y0:=h.hs.Pl (vs:=vs) I hU hO hR (by simp) q1 q2 q3 q4 q5;refine hK _ _ k _ (h.step st J C rfl H a3 y0 (fun id m0 hn=>(bS _ _ m0).trans hn) (fun v' D=>?_) (fun _=>a5) (fun t v' y _ _ Z=>Z.mono (by simp) (fun b hb Q=>?_) (fun b hb _=>u7 _ _ _ hb) (fd I _)))
   ·rw[hT]at D;injection D with D;subst D;exact .ref _ _ _ _ _ (cJ _ _ _)
   ·rcases gk Q with Q|Q
    ·exact Q
    ·injection Q with Q;simp only[]at Q;omega
  ·exact W.elim
 | off lo n =>
  obtain⟨s1,e0⟩:=h.uI st J C rfl i0 H;obtain⟨f0,k1⟩:=dy.off i o lo n J C;obtain⟨hg,x1⟩:=f0 k s1 e0;have hw:=h.wanted st J C H hg;rw[kc (by rw[hw];simp)];obtain⟨d,hd,c0⟩:=st.dst i o _ J C rfl;rw[hd];refine hK _ _ k ι (h.step st J C rfl H hd h.hs (fun _ _ h=>h) (fun v' D=>?_) (fun hs=>?_) (fun t v' y _ _ Z=>Z))
  ·rcases k1 d k hd h.kK with h0|⟨h0,_⟩
   ·rw[h0]at D;cases D
   ·rw[h0]at D;injection D with D;subst D
    exact .tup _ _ [] rfl (fun i x v hx _=>by simp at hx)
  ·rcases k1 d k hd h.kK with h0|⟨_,h0⟩
   ·rw[h0]at hs;cases hs
   ·exact h0
theorem dq.any{j:Exit→Act→World→Prop}(s:Stat ops p K)(d:p.length=ops.size)(z:mK u.P u.n B ops p K σ)(A:∀a w ι,aV u (σ K) a w ι→j .normal a w):
  ∀(b:Nat) (listed:Array Bool) (a:Act) (w:World) (k:Nat) (ι:Env),jD listed=b→dq u ops p K σ listed a w k ι→wpAny u.P .any ops j b listed a w:=by
 have f:∀(listed:Array Bool) (a:Act) (w:World) (k:Nat) (ι:Env),dq u ops p K σ listed a w k ι→(∀i,i<ops.size→listed[i]?=some true)→j .normal a w:=by
  intro listed a w k ι h c;have E:k=K:=by
   have:=h.kK;rcases s.last with J|⟨i,hi⟩
   ·omega
   ·have l:i<ops.size:=by rw[←d];exact(jt.1 hi).1
    have:=(h.wr i K hi).1 (c i l);omega
  subst E;exact A a w ι ⟨h.hs,h.dfr,h.n,fun t v G=>h.tmp t v G (fun i o M g _ _ _=>c i (q7.1 g).1)⟩
 intro b
 induction b with
 | zero =>
  intro listed a w k ι x h;have c:∀i,i<ops.size→listed[i]?=some true:=fun i hi=>y5 x i (by rw[h.sz];exact hi);refine⟨?_,f listed a w k ι h c⟩;cases q:Region.ready .any ops listed with
  | nil=>rfl
  | cons i r =>
   exfalso;obtain⟨e,o,g,_⟩:=lF (ops:=ops) (listed:=listed) (i:=i) (by rw[q];simp);exact e (c i (q7.1 g).1)
 | succ b H =>
  intro listed a w k ι x h;refine⟨fun q=>f listed a w k ι h (agk s d h.sz q),fun i hi=>?_⟩;obtain⟨_,L,n,_⟩:=lF hi;refine h.one s z (by rw[d];exact(q7.1 n).1) hi (fun y w' I ι' F=>H _ y w' I ι' ?_ F);obtain⟨e,o,g,_⟩:=lF hi;have m:i<listed.size:=by rw[h.sz];exact(q7.1 g).1
  have D:listed[i]?=some false:=by
   rw[ll m]at e⊢;cases C:listed[i] with
   | true=>rw[C]at e;exact(e rfl).elim
   | false=>rfl
  have:=Aq D;omega
theorem dq.start(G:Stat ops p K)(f:mK u.P u.n B ops p K σ){a:Act}{w:World}{ι:Env}(s:aV u B a w ι):dq u ops p K σ (Array.replicate ops.size false) a { w with drawn:=w.drawn+1 } 0 ι:=by
 have A:Below w.heap.size w { w with drawn:=w.drawn+1 }:=⟨rfl,rfl,rfl,la _,fun _ _=>rfl⟩;have n:=s.mL A;refine⟨by simp,fun i o r k=>?_,u4 _,fun i m q=>?_,?_,fun i o F d r z D x _=>?_,n.dfr,n.n,fun t v L E=>?_⟩
 ·rw[ak1]at k;split at k<;>cases k
 ·constructor
  ·intro k;rw[ak1]at k;split at k<;>cases k
  ·intro I;have C:i<ops.size:=by have:=(jt.1 q).1;have:=G.len;omega
   have:=(G.chain i _ m (ll C) q).1;omega
 ·have c:=n.hs;have l:∀id,has B.u id=true→has (σ 0).u id=true:=fun id h=>(acz h).elim (fun h=>ft (f.i3 id h)) (fun h=>by unfold has;rw[alt h,amZ]);refine⟨c.below,c.old,fun i y M=>l i (c.use i y M),c.own,c.inj,fun i cs hi=>(f.i4 i cs hi).elim (fun h=>h) (fun h=>l i (c.ko i cs h)),fun i a hi=>?_,fun i cs hi e=>?_,fun i a hi e=>?_,fun i y e=>⟨(c.pin i y e).1,f.i3 _ (c.pin i y e).2⟩⟩
  ·exact(f.i6 i a hi).elim (fun h=>h) (fun h=>l i (c.kr i a h))
  ·rcases f.i2 i cs hi with g|g
   ·exact c.objs i cs g e
   ·have:=c.free g;rw[this]at e;cases e
  ·rcases f.i1 i a hi with g|g
   ·exact c.arrs i a g e
   ·have:=c.free g;rw[this]at e;cases e
 ·cases F with
  | a lo m =>
   obtain⟨T,H,cs,_,_,b,_,j,_⟩:=f.a i o lo m r z;rw[x]at b;injection b with b;subst b
   exact n.hs.free j
  | o lo m =>
   obtain⟨H,b,_,j,_⟩:=f.o i o lo m r z;rw[x]at b;injection b with b;subst b
   exact n.hs.free j
  | _=>cases D
 ·rcases f.i5 t v L with⟨i,o,F,r,z,J,x⟩|g
  ·have:=E i o F r z J x;rw[ak1]at this;split at this<;>cases this
  ·exact n.tmp t v g
theorem acd{Q:Exit→Act→World→Prop}{e:dt}{id:Nat}(σ:Nat→AS)(p:List Tag)(K:Nat)(g:u.P.follows .mixedOrders=true)(f:Stat ops p K)(b:p.length=ops.size)(d:mK u.P u.n B ops p K σ)
  (h:VE u Q e .normal (σ K)):VE u Q (.c (.region id ops true)::e) .normal B:=fun a w ι c=>by
 refine amU g (dq.any f b d (fun a w ι i=>h a w ι i) ops.size _ a _ 0 ι (by simp[jD]) (dq.start f d c))
end
def eB(lo:Nat):Nat→(Nat→Prop)→Prop
 | 0,_=>True
 | n+1,p=>p lo∧eB (lo+1) n p
theorem qp{p:Nat→Prop}:∀{n lo:Nat},eB lo n p→∀j,lo≤j→j<lo+n→p j
 | 0,lo,_,j,a,b=>by omega
 | n+1,lo,h,j,a,b=>by
  by_cases e:j=lo
  ·subst e;exact h.1
  ·exact qp h.2 j (by omega) (by omega)
def nth:g7→Nat→AS
 | [],_=>⟨[],[],[],[]⟩
 | s::_,0=>s
 | _::r,n+1=>nth r n
def gS{α:Type}:List (Nat×α)→List (Nat×α)→List (Nat×α)
 | [],l=>l
 | (k,v)::r,l=>gS r (bd k v l)
theorem vZ{α:Type}:∀(m l:List (Nat×α)) (k:Nat) (v:α),look k (gS m l)=some v→(∃p∈m,p.1=k)∨look k l=some v
 | [],l,k,v,h=>.inr h
 | (j,x)::r,l,k,v,h=>by
  rcases vZ r _ k v h with⟨p,b,e⟩|a
  ·exact .inl ⟨p,oR _ b,e⟩
  ·rw[cn]at a;by_cases e:k=j
   ·exact .inl ⟨(j,x),tl,e.symm⟩
   ·rw[kc e]at a;exact .inr a
def CT(P:Program)(n:Nat)(s:AS)(o:Oper):Prop :=
 match o.op with
 | .call c=>match c.callee with
  | .value a=>match s.ev a,dj s c.args.toList,o.dst with
   | some (.fn f aR),some l,some d=>match look d s.t with
    | some V=>d<n∧dV [] l=true∧V.de []=true∧cI P f=true∧aY P f (l.map gu++aR) (fun v _=>v=V)
    | none=>False
   | _,_,_=>False
  | _=>False
 | _=>False
theorem aiz{P:Program}{n:Nat}{ops:Array Oper}{s:AS}{o:Oper}(h:CT P n s o∨(Gd P n s o∨Hi P n ops s o)):Qi P n ops s o:=by
 rcases h with h|h
 case inr=>exact .inr h
 left;unfold CT at h;unfold Iu;split at h
 ·split at h
  ·split at h
   ·rename_i f aR l d a b c;split at h
    ·rename_i V e;exact⟨f,aR,l,V,d,a,b,c,e,h.1,h.2.1,h.2.2.1,h.2.2.2.1,h.2.2.2.2⟩
    ·cases h
   ·cases h
  ·cases h
 ·cases h
def JS(P:Program)(n:Nat)(a:AS)(o:Oper)(p:Nat→c6→Prop):Prop :=
 match o.op with
 | .alloc T=>match o.dst,ey P T with
  | some d,some cs=>d<min n 450000∧has a.u d=false∧p d cs
  | _,_=>False
 | _=>False
def Fn(n:Nat)(o:Oper)(s:AS):Prop:=match o.dst with|some d=>look d s.t=none∨(look d s.t=some (.tup [])∧d<n)|none=>True
def fv(P:Program)(n:Nat)(c:AS)(b:Array Oper)(K:Nat)(a:g7)(o:Oper):Tag→Prop
 | .s 0=>False
 | .s (m+1)=>ig b (nth a m) true o.guard∧(cc P n (nth a m) o=some (nth a (m+1))∨GK P n b (nth a m) (nth a (m+1)) o)
 | .v lo k=>eB lo k fun j=>ig b (nth a j) true o.guard∧cc P n (nth a j) o=some (nth a j)
 | .c lo k=>eB lo k fun j=>ig b (nth a j) true o.guard∧(CT P n (nth a j) o∨(Gd P n (nth a j) o∨Hi P n b (nth a j) o))
 | .a lo k=>o.guard=none∧JS P n c o fun d cs=>eB lo k fun j=>look d (nth a j).o=some cs∧look d (nth a j).r=none∧look d (nth a j).t=some (.ptr d 0)∧has (nth a j).u d=true
 | .o lo k=>∃d,o.dst=some d∧d<n∧has c.u d=false∧eB lo k fun j=>ig b (nth a j) true o.guard∧Ey P n (nth a j) o d
 | .off lo k=>o.guard≠none∧(eB lo k fun j=>ig b (nth a j) false o.guard)∧eB 0 (K+1) fun j=>Fn n o (nth a j)
def fi(P:Program)(n:Nat)(b:AS)(a:Array Oper)(K:Nat)(c:g7):List Oper→List Tag→Prop
 | o::r,t::ts=>fv P n b a K c o t∧fi P n b a K c r ts
 | _,_=>True
theorem Tf{P:Program}{n:Nat}{d:AS}{a:Array Oper}{K:Nat}{e:g7}:∀{l:List Oper} {ts:List Tag},fi P n d a K e l ts→∀(i:Nat) (o:Oper) (t:Tag),l[i]?=some o→ts[i]?=some t→fv P n d a K e o t
 | [],_,_,i,o,t,h,_=>by simp at h
 | _::_,[],_,i,o,t,_,h=>by simp at h
 | f::r,g::ts,h,0,o,t,b,c=>by simp at b c;subst b;subst c;exact h.1
 | f::r,g::ts,h,i+1,o,t,b,c=>Tf h.2 i o t (by simpa using b) (by simpa using c)
def gE(s:AS)(c:il)(a:iF)(b:List (Nat×cj)):AS:={ t:=gS c s.t,o:=gS a s.o,r:=gS b s.r,u:=b.map (·.1)++(a.map (·.1)++s.u) }
def fresh{α:Type}(u:ed):List (Nat×α)→Prop
 | []=>True
 | (k,_)::r=>has u k=false∧fresh u r
theorem He{α:Type}{u:ed}:∀{l:List (Nat×α)},fresh u l→∀p∈l,has u p.1=false
 | [],_,p,a=>by cases a
 | (k,x)::r,h,p,a=>by
  rcases ol.1 a with rfl|a
  ·exact h.1
  ·exact He h.2 p a
end Go.Proofs.YtocgkfoifehcbaaGreat

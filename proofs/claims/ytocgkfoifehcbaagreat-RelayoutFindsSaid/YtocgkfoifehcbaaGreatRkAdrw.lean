/- A region that draws its order, on abstract states: its values are those of the text's order, if each operation yields its value at every stage of the stores at which it may come. No program in sight. -/
import Derived.Test.YtocgkfoifehcbaaGreatRkAlx
namespace Go.Proofs.YtocgkfoifehcbaaGreat
set_option linter.all false
open Go.RowKit
abbrev g6:=List AS
def ol:=@List.mem_cons_of_mem
def By:=@Bool.not_eq_true'
def Io:=@Bool.or_eq_true
def adn:=@Array.all_eq_true_iff_forall_mem
def adz:=@List.any_eq_true
def ajz:=@List.mem_iff_getElem
def akq:=@Nat.not_lt
def aks:=@Array.getElem?_replicate
def akB:=@List.mem_filter
def akC:=@Array.getElem?_eq_none_iff
def akL:=@Array.getElem?_setIfInBounds_ne
def akO:=@Bool.false_or
def akX:=@List.mem_append_left
def alh:=@List.mem_append_right
def alm:=@List.filter_cons
def alH:=@List.mem_filterMap
def aml:=@wp_region_any
inductive Tag where
 | s (m:Nat)
 | v (lo n:Nat)
 | c (lo n:Nat)
 | a (lo n:Nat)
 | off (lo n:Nat)
 | o (lo n:Nat)
def Tag.f9:Tag→Bool
 | .s _=>false
 | _=>true
def Tag.fc:Tag→Nat×Nat
 | .s m=>(m,0)
 | .v lo n|.c lo n|.a lo n|.off lo n|.o lo n=>(lo,n)
def Tag.Ot:Tag→Bool
 | .a _ _|.o _ _=>true
 | _=>false
theorem Tag.aiL{t:Tag}(h:t.Ot=true):t.f9=true:=by cases t<;>first|rfl|cases h
def cZ(o:Oper):eb:=(o.after.toList.filter (Region.binds .any)).map (·.on)
theorem wH{o}{j}:j∈cZ o↔∃e∈o.after,Region.binds .any e=true∧e.on=j:=by
 grind[cZ]
def sK:Tag→Nat→Bool
 | .s m,k=>m == k
 | _,_=>false
def px(ops:Array Oper)(a:List Tag)(m:Nat):Nat→Nat→Bool
 | 0,j=>match a[j]? with|some b=>sK b m|none=>false
 | k+1,j=>(match a[j]? with|some b=>sK b m|none=>false)||(match ops[j]? with|some c=>(cZ c).any (px ops a m k)|none=>false)
structure Stat(ops:Array Oper)(tags:List Tag)(K:Nat):Prop where
 len:tags.length≤ops.size
 lex:∀(i:Nat) (o:Oper) (tg:Tag),ops[i]?=some o→tags[i]?=some tg→∀j∈cZ o,j<i
 dst:∀(i:Nat) (o:Oper) (tg:Tag),ops[i]?=some o→tags[i]?=some tg→tg.f9=true→∃(d:Nat),o.dst=some d∧∀(j:Nat) (oj:Oper),ops[j]?=some oj→j≠i→oj.dst≠some d
 zY:∀(i:Nat) (o:Oper) (tg:Tag) (t:Nat),ops[i]?=some o→tags[i]?=some tg→t∈o.looksAt ops→∀(j:Nat) (oj:Oper) (tj:Tag),ops[j]?=some oj→tags[j]?=some tj→tj.f9=true→oj.dst=some t→j∈cZ o
 chain:∀(i:Nat) (o:Oper) (m:Nat),ops[i]?=some o→tags[i]?=some (Tag.s m)→1≤m∧m≤K∧(2≤m→∃j∈cZ o,tags[j]?=some (Tag.s (m-1)))∧∀(j:Nat),tags[j]?=some (Tag.s m)→j=i
 last:K=0∨∃(i:Nat),tags[i]?=some (Tag.s K)
 lo:∀(i:Nat) (o:Oper) (tg:Tag),ops[i]?=some o→tags[i]?=some tg→tg.f9=true→tg.fc.1=0∨∃k,∃j∈cZ o,px ops tags tg.fc.1 k j=true
 hi:∀(i:Nat) (tg:Tag),tags[i]?=some tg→tg.f9=true→K<tg.fc.1+tg.fc.2∨∃(j:Nat) (oj:Oper),ops[j]?=some oj∧tags[j]?=some (Tag.s (tg.fc.1+tg.fc.2))∧i∈cZ oj
def nR(ops:Array Oper)(a:List Tag)(K i:Nat)(o:Oper)(b:Tag):Bool :=
 (cZ o).all (fun j=>decide (j<i)) &&
 (!b.f9||(match o.dst with|some d=>(List.range ops.size).all fun j=>j == i||(match ops[j]? with|some e=>e.dst != some d|none=>true)|none=>false)) &&
 ((o.looksAt ops).all fun t=>(List.range ops.size).all fun j=>match ops[j]?,a[j]? with
  | some e,some c=>!c.f9||e.dst != some t||(cZ o).contains j
  | _,_=>true) &&
 (match b with
  | .s m=>decide (1≤m)&&decide (m≤K)&&(decide (m<2)||(cZ o).any fun j=>match a[j]? with|some c=>sK c (m-1)|none=>false) &&
   (List.range ops.size).all fun j=>j == i||(match a[j]? with|some c=>!sK c m|none=>true)
  | _=>true) &&
 (!b.f9||b.fc.1 == 0||((cZ o).any (px ops a b.fc.1 0)||(cZ o).any (px ops a b.fc.1 4))) &&
 (!b.f9||decide (K<b.fc.1+b.fc.2)||(List.range ops.size).any fun j=>match ops[j]?,a[j]? with
  | some e,some c=>sK c (b.fc.1+b.fc.2)&&(cZ e).contains i
  | _,_=>false)
def xW(ops:Array Oper)(a:List Tag)(K m:Nat):Bool :=
 (a.length == m&&Nat.ble m ops.size)&&(List.range m).all fun i=>match ops[i]?,a[i]? with|some o,some b=>nR ops a K i o b|_,_=>false
def yz(ops:Array Oper)(a:List Tag)(K:Nat):Bool:=xW ops a K ops.size
def nL(tags:List Tag)(K:Nat):Bool:=K == 0||tags.any (sK · K)
theorem Dr{t}{m}(h:sK t m=true):t=.s m:=by
 cases t<;>simp[sK]at h
 grind
theorem Ea{ops:Array Oper}{a:List Tag}{K m:Nat}(h:xW ops a K m=true)(s:nL a K=true):Stat ops a K∧a.length=m∧m≤ops.size:=by
 unfold xW at h;simp only[iN,agA,ne,aa8]at h;obtain⟨⟨H,A⟩,h⟩:=h;have A:=j3 A;refine⟨?_,H,A⟩;have g:∀i o k,ops[i]?=some o→a[i]?=some k→nR ops a K i o k=true:=fun i o k p f=>by
  have u:i<m:=by rw[←H];exact(jf.1 f).1
  have:=h i u;simpa only[p,f]using this
 have w:∀i k,a[i]?=some k→∃o,ops[i]?=some o:=fun i k f=>by
  have u:i<ops.size:=by have:=(jf.1 f).1;omega
  exact⟨_,la u⟩
 have I:∀j k,a[j]?=some k→j<ops.size:=fun j k f=>by have:=(jf.1 f).1;omega
 refine⟨by omega,fun i o k p f j q=>?_,fun i o k p f v=>?_,fun i o k t p f D j E F l c C y=>?_,fun i o m p f=>?_,?_,fun i o k p f v=>?_,fun i k f v=>?_⟩
 ·have e:=g i o k p f;unfold nR at e;simp only[iN]at e;have:=e.1.1.1.1.1;have:=ne.1 this j q;simpa using this
 ·have e:=g i o k p f;unfold nR at e;simp only[iN]at e;have:=e.1.1.1.1.2;simp only[v,OR,akO]at this;cases y:o.dst with
  | none=>rw[y]at this;cases this
  | some d =>
   rw[y]at this;refine⟨d,rfl,fun j E l B=>?_⟩;have q:j<ops.size:=(qk.1 l).1;have b:=ne.1 this j (aa8.2 q);simp only[l,Io,agA,bne_iff_ne]at b;rcases b with b|b
   ·exact(B b).elim
   ·exact b
 ·have e:=g i o k p f;unfold nR at e;simp only[iN]at e;have b:=e.1.1.1.2;have z:=ne.1 b t D;have r:=ne.1 z j (aa8.2 (I j F c));simp only[l,c,C,y,OR,akO,Io]at r;rcases r with r|r
  ·simp at r
  ·simpa using r
 ·have e:=g i o _ p f;unfold nR at e;simp only[iN]at e;have b:=e.1.1.2;simp only[iN,q7,Io]at b;obtain⟨⟨⟨z,r⟩,x⟩,L⟩:=b;refine⟨z,r,fun J=>?_,fun j c=>?_⟩
  ·rcases x with x|x
   ·omega
   ·obtain⟨j,q,n⟩:=adz.1 x;cases c:a[j]? with
    | none=>rw[c]at n;cases n
    | some F=>rw[c]at n;exact⟨j,q,by rw[c,Dr n]⟩
  ·have G:=ne.1 L j (aa8.2 (I j _ c));rw[c]at G;simpa[sK]using G
 ·unfold nL at s;simp only[Io,agA]at s;rcases s with s|s
  ·exact .inl s
  ·obtain⟨t,f,n⟩:=adz.1 s;obtain⟨i,u,rfl⟩:=ajz.1 f;exact .inr ⟨i,by rw[jt u,Dr n]⟩
 ·have e:=g i o k p f;unfold nR at e;simp only[iN]at e;have b:=e.1.2;simp only[v,OR,akO,Io,agA]at b;rcases b with b|b|b
  ·exact .inl b
  ·obtain⟨j,q,n⟩:=adz.1 b;exact .inr ⟨_,j,q,n⟩
  ·obtain⟨j,q,n⟩:=adz.1 b;exact .inr ⟨_,j,q,n⟩
 ·obtain⟨o,p⟩:=w i k f;have e:=g i o k p f;unfold nR at e;simp only[iN]at e;have b:=e.2;simp only[v,OR,akO,Io,q7]at b;rcases b with b|b
  ·exact .inl b
  ·obtain⟨j,q,n⟩:=adz.1 b;cases l:ops[j]? with
   | none=>simp[l]at n
   | some E =>
    cases c:a[j]? with
    | none=>simp[l,c]at n
    | some F =>
     simp only[l,c,iN]at n;exact .inr ⟨j,E,l,by rw[c,Dr n.1],by simpa using n.2⟩
theorem abU{ops}{a}{K}(h:yz ops a K=true)(b:nL a K=true):Stat ops a K:=(Ea h b).1
theorem abS{ops}{a}{K}(h:yz ops a K=true)(b:nL a K=true):a.length=ops.size:=(Ea h b).2.1
def hJ(a:Array Oper)(s:AS)(c:Bool):Option (Nat×Bool)→Prop
 | none=>c=true
 | some (j,b)=>match a[j]? with
  | some e=>match e.dst with
   | some d=>look d s.t=some (.bool (if c=true then b else !b))∨(c=false∧look d s.t=some (.tup []))
   | none=>False
  | none=>False
def FB(P:Program)(n:Nat)(s:AS)(o:Oper):Prop :=
 match o.op with
 | .call c=>match c.callee with
  | .value a=>∃f aO l V d,s.ev a=some (.fn f aO)∧dk s c.args.toList=some l∧o.dst=some d∧look d s.t=some V∧d<n∧dW [] l=true∧V.dg []=true∧cF P f=true∧aX P f (l.map gF++aO) (fun v _=>v=V)
  | _=>False
 | _=>False
def Jm(P:Program)(n:Nat)(s:AS)(o:Oper):Prop :=
 ∃f a l V d,AA s o=some (f,a,l)∧oX s l∧o.dst=some d∧look d s.t=some V∧d<n∧V.Je=true∧cF P f=true∧aX P f a (fun v _=>v=V)
def Iy(P:Program)(n:Nat)(ops:Array Oper)(s:AS)(o:Oper):Prop :=
 ∃d c a x b,o.dst=some d∧cb P n s o=some (s.put (some d) (.vv x))∧look d s.t=some (.ref a)∧c≠d∧look c s.t=some (.lk a x)∧look a s.r=some b∧∀(j:Nat) e,ops[j]?=some e→e.dst≠some c
def P4(P:Program)(n:Nat)(ops:Array Oper)(s:AS)(o:Oper):Prop:=FB P n s o∨(Jm P n s o∨Iy P n ops s o)
def BF(P:Program)(n:Nat)(s:AS)(o:Oper)(d:Nat):Prop :=
 match o.op with
 | .call c=>match c.callee with
  | .value a=>∃f aO l V id ar,id<TG∧s.ev a=some (.fn f aO)∧dk s c.args.toList=some l∧dW [] l=true∧cF P f=true∧aX P f (l.map gF++aO) (fun v g=>v=V∧look id g.r=some ar) ∧
   (∀N w ι x,Rel N w ι V x→∃y,ι id=some y)∧look d s.t=some (V.fY id d)∧look d s.r=some ar∧look d s.o=none∧has s.u d=true
  | _=>False
 | .buildSlice T b parts=>b=0∧parts = #[]∧∃e sz,P.underlying T=some (.slice e)∧cC P e=some sz∧look d s.t=some (.ref d)∧look d s.r=some ⟨e,sz,[]⟩∧look d s.o=none∧has s.u d=true
 | .makeSlice T x y=>∃kd kd' m e sz bytes zc,s.ev x=some (.int kd m)∧s.ev y=some (.int kd' m)∧jS P T=some (e,sz,bytes)∧eZ P e=some zc∧fA m bytes=true∧look d s.t=some (.ref d)∧look d s.r=some ⟨e,sz,List.replicate m.toNat (zc.map jg)⟩∧look d s.o=none∧has s.u d=true
 | _=>False
def I5(P:Program)(n:Nat)(ops:Array Oper)(s s':AS)(o:Oper):Prop :=
 ∃e f v0,look e s.t=some (.lk f v0)∧(∀(j:Nat) (g:Oper),ops[j]?=some g→g.dst≠some e) ∧
  ∀(c:Cx),c.P=P→c.n=n→∀(fl:Nat→Bool) (a:Act) (w:World) (ι:Env),aU c (s.tt (cu fl s.t)) a w ι→ι f=some v0→(∀x t,x∈o.op.operands.toList→x=.tmp t→fl t=true) →
   ∀(Kn:Act→World→Prop) (Q:Exit→Act→World→Prop),(∀d w' ι' b,(∀id,some id≠o.dst→ι id=none→ι' id=none)→b.o=s'.o→b.r=s'.r→b.u=s'.u →
    (∀t v,fl t=true∨some t=o.dst→look t s'.t=some v→look t b.t=some v)→aU c b d w' ι'→Kn d w')→o.wp P a w Kn Q
structure nt(P:Program)(n:Nat)(s0:AS)(ops:Array Oper)(tags:List Tag)(K:Nat)(σ:Nat→AS):Prop where
 s:∀(i:Nat) (o:Oper) (m:Nat),ops[i]?=some o→tags[i]?=some (Tag.s (m+1))→hJ ops (σ m) true o.guard∧(cb P n (σ m) o=some (σ (m+1))∨I5 P n ops (σ m) (σ (m+1)) o)
 v:∀(i:Nat) (o:Oper) (lo:Nat) (k:Nat),ops[i]?=some o→tags[i]?=some (Tag.v lo k)→∀(j:Nat),lo≤j→j<lo+k→hJ ops (σ j) true o.guard∧cb P n (σ j) o=some (σ j)
 c:∀(i:Nat) (o:Oper) (lo:Nat) (k:Nat),ops[i]?=some o→tags[i]?=some (Tag.c lo k)→∀(j:Nat),lo≤j→j<lo+k→hJ ops (σ j) true o.guard∧P4 P n ops (σ j) o
 a:∀(i:Nat) (o:Oper) (lo:Nat) (k:Nat),ops[i]?=some o→tags[i]?=some (Tag.a lo k)→∃(T:TypeId) (d:Nat) (cs:c6),o.guard=none∧o.op=.alloc T∧o.dst=some d∧d<min n 450000∧has s0.u d=false∧eZ P T=some cs ∧
  ∀(j:Nat),lo≤j→j<lo+k→look d (σ j).o=some cs∧look d (σ j).r=none∧look d (σ j).t=some (.ptr d 0)∧has (σ j).u d=true
 off:∀(i:Nat) (o:Oper) (lo:Nat) (k:Nat),ops[i]?=some o→tags[i]?=some (Tag.off lo k)→(∀(j:Nat),lo≤j→j<lo+k→hJ ops (σ j) false o.guard∧o.guard≠none)∧∀(d:Nat) (j:Nat),o.dst=some d→j≤K→look d (σ j).t=none∨(look d (σ j).t=some (.tup [])∧d<n)
 o:∀(i:Nat) (o:Oper) (lo:Nat) (k:Nat),ops[i]?=some o→tags[i]?=some (Tag.o lo k)→∃(d:Nat),o.dst=some d∧d<n∧has s0.u d=false∧∀(j:Nat),lo≤j→j<lo+k→hJ ops (σ j) true o.guard∧BF P n (σ j) o d
 i1:∀(id:Nat) (a:co),look id (σ 0).r=some a→look id s0.r=some a∨has s0.u id=false
 i6:∀(id:Nat) (a:co),look id (σ 0).r=some a→has (σ 0).u id=true∨look id s0.r=some a
 i2:∀(id:Nat) (cs:c6),look id (σ 0).o=some cs→look id s0.o=some cs∨has s0.u id=false
 i3:∀(id:Nat),s0.u.contains id=true→(σ 0).u.contains id=true
 i4:∀(id:Nat) (cs:c6),look id (σ 0).o=some cs→has (σ 0).u id=true∨look id s0.o=some cs
 i5:∀(t:Nat) (v:AV),look t (σ 0).t=some v→(∃(i:Nat) (o:Oper) (tg:Tag),ops[i]?=some o∧tags[i]?=some tg∧tg.f9=true∧o.dst=some t)∨look t s0.t=some v
theorem HS.NF{M:Nat→Prop}{Q:aA}{w:World}{ι:Env}{s:AS}(h:HS M Q w ι s){d:Nat}(O:ι d=none)(J:has s.u d=true)(ho:look d s.o=none){e:TypeId}{sz n:Nat}{l:hZ}{vs:ee}(B:look d s.r=some ⟨e,sz,l⟩)(E:l.length=n)(hm:n≤maxLen)(A:vs.length=n*sz)(hz:∀c∈l,c.length=sz)(h1:∀v∈vs,v.oneCell'=true)
  (hc:∀(j:Nat) (c:c6),l[j]?=some c→∀(i:Nat) (x:AV),c[i]?=some x→∃v,vs[j*sz+i]?=some v∧Rel (NN M ι) w bG x v) :
  HS M Q (w.alloc (.cells vs.toArray e)) (ext ι d (.slice (some ⟨w.heap.size,0,none⟩) n n)) s:=by
 have C:Q.w.heap.size≤w.heap.size:=h.below.size;have G:∀b,b<w.heap.size→¬ NN M ι b→(w.alloc (.cells vs.toArray e)).heap[b]?=w.heap[b]?:=fun b T _=>u4 _ _ _ T;have I:∀b,b<w.heap.size→NN M (ext ι d (.slice (some ⟨w.heap.size,0,none⟩) n n)) b→NN M ι b:=fun b T u=>by
  rcases gg u with u|u
  ·exact u
  ·injection u with u;simp only[]at u;omega
 have L:=ff O (.slice (some ⟨w.heap.size,0,none⟩) n n);refine⟨h.below.alloc C _,h.old,fun i y U=>?_,fun i g m=>?_,fun i F g m f=>?_,h.ko,h.kr,fun i cs q t=>?_,fun i a q t=>?_,fun i y t=>⟨L i y (h.pin i y t).1,(h.pin i y t).2⟩⟩
 ·by_cases o:i=d
  ·subst o;exact J
  ·rw[bS _ _ o]at U;exact h.use i y U
 ·by_cases o:i=d
  ·subst o;rw[cI]at m;injection m with m;simp only[]at m;subst m;exact⟨.inl C,by simp⟩
  ·rw[bS _ _ o]at m;exact⟨(h.own i g m).1,by have:=(h.own i g m).2;simp;omega⟩
 ·by_cases o:i=d
  ·by_cases p:F=d
   ·omega
   ·subst o;rw[cI]at m;rw[bS _ _ p]at f;injection m with m;simp only[]at m
    have:=(h.own F g f).2;omega
  ·by_cases p:F=d
   ·subst p;rw[cI]at f;rw[bS _ _ o]at m;injection f with f;simp only[]at f
    have:=(h.own i g m).2;omega
   ·rw[bS _ _ o]at m;rw[bS _ _ p]at f;exact h.inj i F g m f
 ·have o:i≠d:=by rintro rfl;rw[ho]at q;cases q
  rw[bS _ _ o]at t;obtain⟨D,T',P,R,W,X⟩:=h.objs i cs q t;have N:=(h.own i D (by rw[R];rfl)).2;exact⟨D,T',P,(bS _ _ o).trans R,(u4 _ _ _ N).trans W,X.mono (by simp) I G L⟩
 ·by_cases o:i=d
  ·subst o;rw[B]at q;injection q with q;subst q
   refine⟨_,vs,cI _ _ _,⟨by simp[A,E],.inr ⟨w.heap.size,n,vs.toArray,by simp[E],u6 _,alL w _,by simp[E],hm,by simpa using A,by simp[E,← A]⟩⟩,hz,h1,fun j c K k x z=>?_⟩;obtain⟨v,hv,B⟩:=hc j c K k x z;exact⟨v,hv,.inl (B.mono (by simp) I G (fun _ _ h=>h))⟩
  ·rw[bS _ _ o]at t;obtain⟨v,xs,S,Y,Z,g4,g5⟩:=h.arrs i a q t;refine⟨v,xs,(bS _ _ o).trans S,fR Y (fun D f=>u4 _ _ _ (h.own i D (by rw[S];exact f)).2),Z,g4,fun j V K k c z=>?_⟩;obtain⟨x,hx,B⟩:=g5 j V K k c z;exact⟨x,hx,B.mono (by simp) I G (fun r H=>L _ _ H) (fun r H=>u4 _ _ _ (h.j9 H)) (fun h=>h)⟩
theorem HS.aiT{M:Nat→Prop}{N:aA}{w:World}{ι:Env}{s:AS}(h:HS M N w ι s){d:Nat}(Y:ι d=none)(H:has s.u d=true)(K:look d s.r=none){T:TypeId}(U:tyName d T){cs:c6}{vs:ee}(W:look d s.o=some cs)(V:Cells (NN M ι) w ι cs vs):
  HS M N (w.alloc (.cells vs.toArray T)) (ext ι d (.pointer (some ⟨w.heap.size,0,none⟩))) s:=by
 have q:N.w.heap.size≤w.heap.size:=h.below.size;have B:∀b,b<w.heap.size→¬ NN M ι b→(w.alloc (.cells vs.toArray T)).heap[b]?=w.heap[b]?:=fun b O _=>u4 _ _ _ O;have G:∀b,b<w.heap.size→NN M (ext ι d (.pointer (some ⟨w.heap.size,0,none⟩))) b→NN M ι b:=fun b O o=>by
  rcases gg o with o|o
  ·exact o
  ·injection o with o;simp only[]at o;omega
 have z:=ff Y (.pointer (some ⟨w.heap.size,0,none⟩));refine⟨h.below.alloc q _,h.old,fun i y P=>?_,fun i g l=>?_,fun i A g l f=>?_,h.ko,h.kr,fun i C m n=>?_,fun i a m n=>?_,fun i y n=>⟨z i y (h.pin i y n).1,(h.pin i y n).2⟩⟩
 ·by_cases e:i=d
  ·subst e;exact H
  ·rw[bS _ _ e]at P;exact h.use i y P
 ·by_cases e:i=d
  ·subst e;rw[cI]at l;injection l with l;simp only[]at l;subst l;exact⟨.inl q,by simp⟩
  ·rw[bS _ _ e]at l;exact⟨(h.own i g l).1,by have:=(h.own i g l).2;simp;omega⟩
 ·by_cases e:i=d
  ·by_cases t:A=d
   ·omega
   ·subst e;rw[cI]at l;rw[bS _ _ t]at f;injection l with l;simp only[]at l
    have:=(h.own A g f).2;omega
  ·by_cases t:A=d
   ·subst t;rw[cI]at f;rw[bS _ _ e]at l;injection f with f;simp only[]at f
    have:=(h.own i g l).2;omega
   ·rw[bS _ _ e]at l;rw[bS _ _ t]at f;exact h.inj i A g l f
 ·by_cases e:i=d
  ·subst e;rw[W]at m;injection m with m;subst m
   exact⟨w.heap.size,⟨T,U⟩,vs.toArray,cI _ _ _,alL w _,by simpa using V.mono (by simp) G B z⟩
  ·rw[bS _ _ e]at n;obtain⟨u,T',L,p,E,F⟩:=h.objs i C m n;have J:=(h.own i u (by rw[p];rfl)).2;exact⟨u,T',L,(bS _ _ e).trans p,(u4 _ _ _ J).trans E,F.mono (by simp) G B z⟩
 ·by_cases e:i=d
  ·subst e;rw[K]at m;cases m
  ·rw[bS _ _ e]at n;obtain⟨v,xs,p,E,F,R,S⟩:=h.arrs i a m n;refine⟨v,xs,(bS _ _ e).trans p,fR E (fun u f=>u4 _ _ _ (h.own i u (by rw[p];exact f)).2),F,R,fun j Q X k c I=>?_⟩;obtain⟨x,Z,K⟩:=S j Q X k c I;exact⟨x,Z,K.mono (by simp) G B (fun r D=>z _ _ D) (fun r D=>u4 _ _ _ (h.j9 D)) (fun h=>h)⟩
theorem HS.of_eq{M:Nat→Prop}{g:aA}{w:World}{ι:Env}{s s':AS}(h:HS M g w ι s)(m:s.o=s'.o)(n:s.r=s'.r)(o:s.u=s'.u):HS M g w ι s':=by
 obtain⟨i,j,d,k,l,b,c,e,f,a⟩:=h;rw[m]at b e;rw[n]at c f;rw[o]at d b c a;exact⟨i,j,d,k,l,b,c,e,f,a⟩
structure dp(cx:Cx)(ops:Array Oper)(tags:List Tag)(K:Nat)(σ:Nat→AS)(listed:Array Bool)(a:Act) w k ι:Prop where
 sz:listed.size=ops.size
 cl:∀(i:Nat) o,ops[i]?=some o→listed[i]?=some true→∀j∈cZ o,listed[j]?=some true
 kK:k≤K
 wr:∀(i:Nat) m,tags[i]?=some (Tag.s m)→(listed[i]?=some true↔m≤k)
 hs:HS cx.M cx.w0 w ι (σ k)
 al:∀(i:Nat) o tg (d:Nat),ops[i]?=some o→tags[i]?=some tg→tg.Ot=true→o.dst=some d→listed[i]?≠some true→ι d=none
 dfr:a.defers=[]
 n:a.tmps.size=cx.n
 tmp:∀t v,look t (σ k).t=some v→(∀(i:Nat) o tg,ops[i]?=some o→tags[i]?=some tg→tg.f9=true→o.dst=some t→listed[i]?=some true)→∃x,a.tmps[t]?=some x∧Rel (NN cx.M ι) w ι v x
section
variable{f:Cx}{ops:Array Oper}{c:List Tag}{K:Nat}{σ:Nat→AS}{listed:Array Bool}{a:Act}{w:World}{k:Nat}{ι:Env}{g:AS}
theorem dJ{i j}(a:i<listed.size):(listed.setIfInBounds i true)[j]?=some true↔j=i∨listed[j]?=some true:=by
 grind
theorem dp.uM(y:Stat ops c K)(h:dp f ops c K σ listed a w k ι){i:Nat}{o:Oper}{d:Tag}(D:ops[i]?=some o)(x:c[i]?=some d)(v:d.f9=true)(s:listed[i]?≠some true)(n:∀j∈cZ o,listed[j]?=some true):
  d.fc.1≤k∧k<d.fc.1+d.fc.2:=by
 constructor
 ·rcases y.lo i o d D x v with B|⟨q,j,p,b⟩
  ·omega
  ·have key:∀(q j:Nat),px ops c d.fc.1 q j=true→listed[j]?=some true→d.fc.1≤k:=by
    have m:∀j:Nat,(match c[j]? with|some A=>sK A d.fc.1|none=>false)=true→listed[j]?=some true→d.fc.1≤k:=fun j b l=>by
     cases g:c[j]? with
     | none=>rw[g]at b;cases b
     | some A=>rw[g]at b;exact(h.wr j _ (by rw[g,Dr b])).1 l
    intro q
    induction q with
    | zero=>intro j b l;unfold px at b;exact m j b l
    | succ q F =>
     intro j b l;unfold px at b;rw[Io]at b;rcases b with b|b
     ·exact m j b l
     ·cases e:ops[j]? with
      | none=>rw[e]at b;cases b
      | some t =>
       rw[e]at b;obtain⟨z,E,b⟩:=adz.1 b;exact F z b (h.cl j t e l z E)
   exact key q j b (n j p)
 ·rcases y.hi i d x v with B|⟨j,t,e,b,C⟩
  ·have:=h.kK;omega
  ·have u:¬ (d.fc.1+d.fc.2≤k):=fun r=>by
    have p:=(h.wr j _ b).2 r;exact s (h.cl j t e p i C)
   omega
def PO(ops:Array Oper)(c:List Tag)(listed:Array Bool)(t:Nat):Prop:=∀(i:Nat) o a,ops[i]?=some o→c[i]?=some a→a.f9=true→o.dst=some t→listed[i]?=some true
open Classical in
noncomputable def eJ(ops:Array Oper)(c:List Tag)(listed:Array Bool):Nat→Bool:=fun t=>decide (PO ops c listed t)
theorem ku{t:Nat}:eJ ops c listed t=true↔PO ops c listed t:=by
 unfold eJ;exact @decide_eq_true_iff _ (Classical.propDecidable _)
theorem dp.Lz(h:dp f ops c K σ listed a w k ι):aU f ((σ k).tt (cu (eJ ops c listed) (σ k).t)) a w ι :=
 ⟨h.hs.of_eq rfl rfl rfl,h.dfr,h.n,fun t v e=>by
  have b:look t (cu (eJ ops c listed) (σ k).t)=some v:=e;rw[eQ]at b;split at b
  ·rename_i d;exact h.tmp t v b (ku.1 d)
  ·cases b⟩
theorem dp.zY(s:Stat ops c K)(h:dp f ops c K σ listed a w k ι){i:Nat}{o:Oper}{l:Tag}(n:ops[i]?=some o)(e:c[i]?=some l)(b:∀j∈cZ o,listed[j]?=some true){t:Nat}(q:t∈o.looksAt ops):eJ ops c listed t=true :=
 ku.2 fun j r u d g p m=>b j (s.zY i o l t n e q j r u d g p m)
theorem agb{o:Oper}{x:Operand}{t:Nat}(a:x∈o.op.operands.toList)(e:x=.tmp t):t∈o.looksAt ops:=by
 subst e;unfold Oper.looksAt;exact akX _ (alH.2 ⟨_,a,rfl⟩)
theorem dp.wanted(y:Stat ops c K)(h:dp f ops c K σ listed a w k ι){i:Nat}{o:Oper}{z:Tag}(v:ops[i]?=some o)(n:c[i]?=some z)(l:∀j∈cZ o,listed[j]?=some true){t:Bool}(e:hJ ops (σ k) t o.guard):Region.wanted o (yielded ops a.tmps)=t:=by
 unfold hJ at e;split at e
 ·rename_i m;simp[Region.wanted,m,e]
 ·rename_i j b m;split at e
  ·rename_i A g;split at e
   ·rename_i d p;have u:d∈o.looksAt ops:=by
     unfold Oper.looksAt;refine alh _ ?_;simp[m,g,p]
    rcases e with e|⟨q,e⟩
    ·obtain⟨x,s,r⟩:=h.tmp d _ e (ku.1 (h.zY y v n l u));cases r;cases t<;>cases b<;>simp[Region.wanted,m,yielded,g,p,s]
    ·obtain⟨x,s,r⟩:=h.tmp d _ e (ku.1 (h.zY y v n l u));cases r;subst q;cases b<;>simp[Region.wanted,m,yielded,g,p,s]
   ·cases e
  ·cases e
theorem dp.step(st:Stat ops c K)(h:dp f ops c K σ listed a w k ι){i:Nat}{o:Oper}{Q:Tag}(C:ops[i]?=some o)(U:c[i]?=some Q)(T:Q.f9=true)(F:∀j∈cZ o,listed[j]?=some true){d:Nat}(S:o.dst=some d)
  {w':World} {ι':Env} {x:Value} (O:HS f.M f.w0 w' ι' (σ k)) (I:∀id,id≠d→ι id=none→ι' id=none) (Z:∀v,look d (σ k).t=some v→Rel (NN f.M ι') w' ι' v x) (E:(look d (σ k).t).isSome=true→d<f.n)
  (Y:∀t v y,t≠d→look t (σ k).t=some v→Rel (NN f.M ι) w ι v y→Rel (NN f.M ι') w' ι' v y):dp f ops c K σ (listed.setIfInBounds i true) (a.put (some d) x) w' k ι':=by
 have u:i<listed.size:=by rw[h.sz];exact(qk.1 C).1
 obtain⟨D,n,r⟩:=st.dst i o Q C U T;rw[S]at n;injection n with n;subst n
 refine⟨by simp[h.sz],fun j s b q V z=>?_,h.kK,fun j m l=>?_,O,fun j s R D b q J g A=>?_,h.dfr,by simp[Act.put,h.n],fun t v p L=>?_⟩
 ·rw[dJ u]at q⊢;rcases q with rfl|q
  ·rw[C]at b;injection b with b;subst b
   exact .inr (F V z)
  ·exact .inr (h.cl j s b q V z)
 ·rw[dJ u];constructor
  ·rintro (rfl|q)
   ·rw[U]at l;injection l with l;subst l;cases T
   ·exact(h.wr j m l).1 q
  ·intro H;exact .inr ((h.wr j m l).2 H)
 ·have G:j≠i:=by rintro rfl;exact A ((dJ u).2 (.inl rfl))
  have B:listed[j]?≠some true:=fun X=>A ((dJ u).2 (.inr X));refine I D ?_ (h.al j s R D b q J g B)
  rintro rfl
  exact r j s b G g
 ·by_cases e:t=d
  ·subst e;exact⟨x,by have:=E (by rw[p];rfl);simp[Act.put,h.n,this],Z v p⟩
  ·obtain⟨y,hy,N⟩:=h.tmp t v p (fun j s tj b P M g=>by
    have:=L j s tj b P M g;rw[dJ u]at this;rcases this with rfl|this
    ·rw[C]at b;injection b with b;subst b
     rw[S]at g;injection g with g;exact(e g.symm).elim
    ·exact this)
   exact⟨y,by simp only[Act.put];rw[akL (fun W=>e W.symm)];exact hy,Y t v y e p N⟩
end
section
variable{u:Cx}{ops:Array Oper}{p:List Tag}{K:Nat}{σ:Nat→AS}{listed:Array Bool}{a:Act}{w:World}{k:Nat}{ι:Env}{B:AS}
theorem lA{i:Nat}(h:i∈Region.ready .any ops listed):listed[i]?≠some true∧∃o,ops[i]?=some o∧∀j∈cZ o,listed[j]?=some true:=by
 unfold Region.ready at h;simp only[akB,aa8,iN,By]at h;obtain⟨n,d,c⟩:=h;have g:=la (xs:=ops) n;rw[g]at c;simp only[aaU,Ts,adn,Io,By]at c;refine⟨fun m=>?_,_,g,fun j p=>?_⟩
 ·rw[u5,m]at d;cases d
 ·obtain⟨e,l,k,rfl⟩:=wH.1 p;rcases c e l with a|a
  ·rw[k]at a;cases a
  ·rw[u5]at a;cases f:listed[e.on]? with
   | none=>rw[f]at a;cases a
   | some b=>rw[f]at a;simp only[Ts]at a;rw[a]
theorem ZW(q:Stat ops p K)(a:p.length=ops.size)(n:listed.size=ops.size)(h:Region.ready .any ops listed=[]):∀i,i<ops.size→listed[i]?=some true:=by
 intro i
 induction i using Nat.strongRecOn with
 | _ i o =>
  intro c;have k:=la (xs:=ops) c;cases g:listed[i]? with
  | none=>rw[akC]at g;omega
  | some b =>
   cases b with
   | true=>rfl
   | false =>
    exfalso;have j:i∈Region.ready .any ops listed:=by
     unfold Region.ready;simp only[akB,aa8,iN,By];refine⟨c,by rw[u5,g];rfl,?_⟩;rw[k];simp only[aaU,Ts,adn,Io,By];intro e l;by_cases f:Region.binds .any e=true
     ·right;have m:e.on∈cZ ops[i]:=wH.2 ⟨e,l,f,rfl⟩;have d:=q.lex i _ _ k (jt (by rw[a];exact c)) e.on m;rw[u5,o e.on d (by omega)];rfl
     ·left;simpa using f
    rw[h]at j;cases j
def jx(listed:Array Bool):Nat:=(listed.toList.filter (fun b=>!b)).length
theorem yY{i:Nat}(h:listed[i]?=some false):jx (listed.setIfInBounds i true)+1=jx listed:=by
 have a:i<listed.size:=(qk.1 h).1;have d:listed.toList[i]'(by simpa using a)=false:=by have:=(qk.1 h).2;simpa using this
 unfold jx;rw[alE];have key:∀(l:List Bool) (i:Nat) (a:i<l.length),l[i]=false→((l.set i true).filter (fun b=>!b)).length+1=(l.filter (fun b=>!b)).length:=by
  intro l
  induction l with
  | nil=>intro i a _;simp at a
  | cons b r e =>
   intro i a c;cases i with
   | zero=>simp at c;subst c;simp
   | succ i =>
    simp only[List.set_cons_succ,alm];have:=e i (by simpa using a) (by simpa using c);split<;>(try simp only[lp])<;>omega
 exact key _ i (by simpa using a) d
theorem AK(h:jx listed=0)(i:Nat)(c:i<listed.size):listed[i]?=some true:=by
 unfold jx at h;have d:=n3 h;rw[la c];congr 1;cases a:listed[i] with
 | true=>rfl
 | false =>
  exfalso;have:listed[i]∈listed.toList.filter (fun b=>!b):=akB.2 ⟨by simp,by simp[a]⟩;rw[d]at this;cases this
theorem dp.one{Q':Exit→Act→World→Prop}{X:Act→World→Prop}(st:Stat ops p K)(dy:nt u.P u.n B ops p K σ)(h:dp u ops p K σ listed a w k ι){i:Nat}(o0:i<p.length)(hi:i∈Region.ready .any ops listed)
  (hK:∀a' w' k' ι',dp u ops p K σ (listed.setIfInBounds i true) a' w' k' ι'→X a' w'):wpOp u.P ops Q' i X a w:=by
 obtain⟨i0,o,J,H⟩:=lA hi;have n2:i<ops.size:=(qk.1 J).1;have C:=jt (l:=p) (i:=i) o0;generalize p[i]'o0=tg at C;have M:=h.Lz;have U:∀x t,x∈o.op.operands.toList→x=.tmp t→eJ ops p listed t=true:=fun x t hx e=>h.zY st J C H (agb hx e);unfold wpOp;simp only[J]
 -- what an operation of the list 'aop' does
 have q0:∀{s':AS},cb u.P u.n (σ k) o=some s'→∃ι',(∀id,some id≠o.dst→ι id=none→ι' id=none)∧∃s2,s2.o=s'.o∧s2.r=s'.r∧s2.u=s'.u∧(∀t v,eJ ops p listed t=true∨some t=o.dst→look t s'.t=some v→look t s2.t=some v) ∧
   ∃a' w',aU u s2 a' w' ι'∧(∀R:Act→World→Prop,R a' w'→o.wp u.P a w R Q'):=by
  intro s' x0;obtain⟨s2,f1,f2,f3,f4,f5⟩:=aiN (ok:=eJ ops p listed) x0 U;obtain⟨ι',g1,g2⟩:=Q3 M f1;refine⟨ι',g1,s2,f2,f3,f4,f5,?_⟩;obtain⟨x,w',hr,F⟩|⟨w',hr,F⟩:=g2
  ·exact⟨_,_,F,fun R hR=>by unfold Oper.wp;rw[hr];exact hR⟩
  ·exact⟨_,_,F,fun R hR=>by unfold Oper.wp;rw[hr];exact hR⟩
 have O1:∀{m},tg=.s m→∀j m',p[j]?=some (.s m')→j≠i→m'≠m:=fun e j m' Y z1 e'=>by
  subst e;subst e';exact z1 ((st.chain i o _ J C).2.2.2 j Y)
 have G:i<listed.size:=by rw[h.sz];exact n2
 cases tg with
 | s m =>
  obtain⟨L2,p2,p1,c0⟩:=st.chain i o m J C;have r2:m=k+1:=by
   have h1:¬ m≤k:=fun s0=>i0 ((h.wr i m C).2 s0);have h2:m≤k+1:=by
    by_cases c2:2≤m
    ·obtain⟨j,Y,hs⟩:=p1 c2;have:=(h.wr j _ hs).1 (H j Y);omega
    ·omega
   omega
  subst r2;obtain⟨hg,W⟩:=dy.s i o k J C;have hw:Region.wanted o (yielded ops a.tmps)=true:=h.wanted st J C H hg;rw[lc hw];have w1:∀a' w' ι' s2,(∀id,some id≠o.dst→ι id=none→ι' id=none)→s2.o=(σ (k+1)).o→s2.r=(σ (k+1)).r→s2.u=(σ (k+1)).u →
    (∀t v,eJ ops p listed t=true∨some t=o.dst→look t (σ (k+1)).t=some v→look t s2.t=some v)→aU u s2 a' w' ι'→dp u ops p K σ (listed.setIfInBounds i true) a' w' (k+1) ι':=fun a' w' ι' s2 g1 e1 e2 e3 e4 F=>by
   refine⟨by simp[h.sz],fun j oj r Y j' g0=>?_,p2,fun j m' S=>?_,F.hs.of_eq e1 e2 e3,fun j oj d1 d' r Y t0 E a0=>?_,F.dfr,F.n,fun t v hv S0=>?_⟩
   ·rw[dJ G]at Y⊢;rcases Y with rfl|Y
    ·rw[J]at r;injection r with r;subst r;exact .inr (H j' g0)
    ·exact .inr (h.cl j oj r Y j' g0)
   ·rw[dJ G];by_cases e:j=i
    ·subst e;rw[C]at S;injection S with S;injection S with S;subst S;simp
    ·have:=h.wr j m' S;have z1:=O1 rfl j m' S e;constructor
     ·rintro (h1|h1)
      ·exact(e h1).elim
      ·have:=this.1 h1;omega
     ·intro s0;exact .inr (this.2 (by omega))
   ·have A0:j≠i:=by rintro rfl;exact a0 ((dJ G).2 (.inl rfl))
    have k0:listed[j]?≠some true:=fun Q=>a0 ((dJ G).2 (.inr Q));refine g1 d' (fun e=>?_) (h.al j oj d1 d' r Y t0 E k0);obtain⟨d2,j1,y2⟩:=st.dst j oj _ r Y (Tag.aiL t0);rw[E]at j1;injection j1 with j1;subst j1
    exact y2 i o J (fun e'=>A0 e'.symm) e.symm
   ·refine F.tmp t v (e4 t v (.inl (ku.2 fun j oj tj r d0 w0 E=>?_)) hv);have:=S0 j oj tj r d0 w0 E;rw[dJ G]at this;rcases this with rfl|this
    ·rw[C]at d0;injection d0 with d0;subst d0;cases w0
    ·exact this
  rcases W with W|⟨dl,iv,v0,q1,q2,q3⟩
  ·obtain⟨ι',g1,s2,e1,e2,e3,e4,a',w',F,c1⟩:=q0 W;exact .inl (c1 _ (hK a' w' (k+1) ι' (w1 a' w' ι' s2 g1 e1 e2 e3 e4 F)))
  ·have T0:eJ ops p listed dl=true:=ku.2 fun j oj tj r _ _ E=>(q2 j oj r E).elim;obtain⟨y,_,hr⟩:=M.tmp dl (.lk iv v0) (by show look dl (cu _ _)=_;rw[eQ,lc T0];exact q1);cases hr with
   | lk _ _ _ _ hv _ =>
    exact .inl (q3 u rfl rfl _ a w ι M hv U _ Q' (fun a' w' ι' s2 g1 e1 e2 e3 e4 F=>hK a' w' (k+1) ι' (w1 a' w' ι' s2 g1 e1 e2 e3 e4 F)))
 | v lo n =>
  obtain⟨s1,e0⟩:=h.uM st J C rfl i0 H;obtain⟨hg,W⟩:=dy.v i o lo n J C k s1 e0;have hw:=h.wanted st J C H hg;rw[lc hw];obtain⟨d,hd,c0⟩:=st.dst i o _ J C rfl;obtain⟨ι',g1,s2,e1,e2,e3,e4,a',w',F,c1⟩:=q0 W;refine .inl (c1 _ (hK a' w' k ι' ?_));refine⟨by simp[h.sz],fun j oj r Y j' g0=>?_,h.kK,fun j m' S=>?_,F.hs.of_eq e1 e2 e3,fun j oj d1 d' r Y t0 E a0=>?_,F.dfr,F.n,fun t v hv S0=>?_⟩
  ·rw[dJ G]at Y⊢;rcases Y with rfl|Y
   ·rw[J]at r;injection r with r;subst r;exact .inr (H j' g0)
   ·exact .inr (h.cl j oj r Y j' g0)
  ·rw[dJ G];have e:j≠i:=by rintro rfl;rw[C]at S;cases S
   have:=h.wr j m' S;constructor
   ·rintro (h1|h1)
    ·exact(e h1).elim
    ·exact this.1 h1
   ·intro s0;exact .inr (this.2 s0)
  ·have A0:j≠i:=by rintro rfl;exact a0 ((dJ G).2 (.inl rfl))
   have k0:listed[j]?≠some true:=fun Q=>a0 ((dJ G).2 (.inr Q));refine g1 d' (fun e=>?_) (h.al j oj d1 d' r Y t0 E k0);rw[hd]at e;injection e with e;subst e
   exact c0 j oj r A0 E
  ·refine F.tmp t v (e4 t v ?_ hv);by_cases e:t=d
   ·right;rw[hd,e]
   ·left;refine ku.2 fun j oj tj r d0 w0 E=>?_;have:=S0 j oj tj r d0 w0 E;rw[dJ G]at this;rcases this with rfl|this
    ·rw[J]at r;injection r with r;subst r
     rw[hd]at E;injection E with E;exact(e E.symm).elim
    ·exact this
 | c lo n =>
  obtain⟨s1,e0⟩:=h.uM st J C rfl i0 H;obtain⟨hg,W⟩:=dy.c i o lo n J C k s1 e0;have hw:=h.wanted st J C H hg;rw[lc hw];rcases W with W|W|W
  case inr.inr =>
   obtain⟨d,dl,u1,x,b,hd,W,p0,k2,o2,u2,t2⟩:=W;obtain⟨d',i1,c0⟩:=st.dst i o _ J C rfl;rw[hd]at i1;injection i1 with i1;subst i1
   obtain⟨ι',g1,s2,e1,e2,e3,e4,a',w',F,c1⟩:=q0 W;have T0:eJ ops p listed dl=true:=ku.2 fun j oj tj r _ _ E=>(t2 j oj r E).elim;have hx:ι' u1=some x:=by
    obtain⟨y,_,hr⟩:=F.tmp dl (.lk u1 x) (e4 dl _ (.inl T0) (by simp only[AS.put,cv];rw[kb k2];exact o2));cases hr with
    | lk _ _ _ _ h _=>exact h
   refine .inl (c1 _ (hK a' w' k ι' ?_));refine⟨by simp[h.sz],fun j oj r Y j' g0=>?_,h.kK,fun j m' S=>?_,F.hs.of_eq e1 e2 e3,fun j oj d1 d' r Y t0 E a0=>?_,F.dfr,F.n,fun t v hv S0=>?_⟩
   ·rw[dJ G]at Y⊢;rcases Y with rfl|Y
    ·rw[J]at r;injection r with r;subst r;exact .inr (H j' g0)
    ·exact .inr (h.cl j oj r Y j' g0)
   ·rw[dJ G];have e:j≠i:=by rintro rfl;rw[C]at S;cases S
    have:=h.wr j m' S;constructor
    ·rintro (h1|h1)
     ·exact(e h1).elim
     ·exact this.1 h1
    ·intro s0;exact .inr (this.2 s0)
   ·have A0:j≠i:=by rintro rfl;exact a0 ((dJ G).2 (.inl rfl))
    have k0:listed[j]?≠some true:=fun Q=>a0 ((dJ G).2 (.inr Q));refine g1 d' (fun e=>?_) (h.al j oj d1 d' r Y t0 E k0);rw[hd]at e;injection e with e;subst e
    exact c0 j oj r A0 E
   ·by_cases e:t=d
    ·subst e;rw[p0]at hv;injection hv with hv;subst hv
     obtain⟨y,hy,hr⟩:=F.tmp t (.vv x) (e4 t _ (.inr hd.symm) (by simp[AS.put,cv]));refine⟨y,hy,?_⟩;cases hr;obtain⟨v,xs,q1,q2,_⟩:=F.hs.arrs u1 b (by rw[e2];exact u2) (by rw[hx];rfl);rw[hx]at q1;injection q1 with q1;subst q1
     obtain⟨A',m,c,rfl⟩:∃A m c,x=.slice A m c:=by
      rcases q2.2 with⟨hv,_⟩|⟨_,_,_,hv,_⟩<;>exact⟨_,_,_,hv⟩
     exact .ref _ _ _ _ _ hx
    ·refine F.tmp t v (e4 t v (.inl ?_) (by simp only[AS.put,cv];rw[kb e];exact hv));refine ku.2 fun j oj tj r d0 w0 E=>?_;have:=S0 j oj tj r d0 w0 E;rw[dJ G]at this;rcases this with rfl|this
     ·rw[J]at r;injection r with r;subst r
      rw[hd]at E;injection E with E;exact(e E.symm).elim
     ·exact this
  case inr.inl =>
   obtain⟨f,v1,l,V,d,h1,v2,a3,a4,a5,a7,a8,a9⟩:=W;have S1:AA ((σ k).tt (cu (eJ ops p listed) (σ k).t)) o=some (f,v1,l):=by
    unfold AA at h1⊢;split at h1
    case h_2=>cases h1
    rename_i cl L;split at h1
    case h_2=>cases h1
    rename_i fo O;have e1:((σ k).tt (cu (eJ ops p listed) (σ k).t)).ev fo=(σ k).ev fo:=by
     cases fo with
     | tmp t =>
      show look t (cu _ _)=look t _;rw[eQ,lc (U (.tmp t) t (by simp[L,Op.operands,Call.operands,O]) rfl)]
     | const v=>rfl
     | func g=>rfl
     | global g=>rfl
    have e2:dk ((σ k).tt (cu (eJ ops p listed) (σ k).t)) cl.args.toList=dk (σ k) cl.args.toList:=qu (fun x hx=>by
     cases x with
     | tmp t =>
      show look t (cu _ _)=look t _;rw[eQ,lc (U (.tmp t) t (by simp[L,Op.operands,Call.operands,O];exact .inr (Do.1 hx)) rfl)]
     | const v=>rfl
     | func g=>rfl
     | global g=>rfl)
    simp only[L,O,e1,e2,LJ];exact h1
   left;have i2:=adA (R:=Q') a9 a8 S1 (E9 _ _ l v2) M (K:=X) (fun x v s1 ι1 w' hv b0 hr=>by
    subst hv;rw[a3];refine hK _ _ k ι (h.step st J C rfl H a3 (h.hs.mz b0.below.plain) (fun _ _ h=>h) (fun v' D=>?_) (fun _=>a5) (fun t v' y _ _ Z=>Z.mono b0.below.plain.size (fun b _ hb=>hb) (fun b p0 _=>b0.below.plain.block b p0) (fun _ _ h=>h)));rw[a4]at D;injection D with D;subst D;exact PW a7 hr)
   exact i2
  case inl =>
  unfold FB at W;split at W
  ·rename_i cl L;split at W
   ·rename_i fo O;obtain⟨f,aO,l,V,d,a1,a2,a3,a4,a5,a6,a7,a8,a9⟩:=W;have n1:((σ k).tt (cu (eJ ops p listed) (σ k).t)).ev fo=some (.fn f aO):=by
     cases fo with
     | tmp t =>
      show look t (cu _ _)=_;rw[eQ,lc (U (.tmp t) t (by simp[L,Op.operands,Call.operands,O]) rfl)];exact a1
     | const v=>exact a1
     | func g=>exact a1
     | global g=>exact a1
    have hl:dk ((σ k).tt (cu (eJ ops p listed) (σ k).t)) cl.args.toList=some l:=by
     rw[qu];exact a2;intro x hx;cases x with
     | tmp t =>
      show look t (cu _ _)=look t _;rw[eQ,lc (U (.tmp t) t (by simp[L,Op.operands,Call.operands,O];exact .inr (Do.1 hx)) rfl)]
     | const v=>rfl
     | func g=>rfl
     | global g=>rfl
    left;unfold Oper.wp;obtain⟨ys,r1,l1,m1⟩:=kx M L O n1 a8;rw[r1,aeq];refine (a9 (NN u.M ι) w _ (fun b hb=>lW M.hs hb) (Aj M hl a6 l1 m1)).mono ?_
    rintro e w' ⟨x,v,s3,ι1,rfl,rfl,b0,hr⟩
    have h3:Rel (NN u.M ι) w' ι v x:=(hr.pure a7 ι).mono (ll _) (fun b _ hb=>.inl hb) (fun _ _ _=>rfl) (fun _ _ h=>h);rw[a3];refine hK _ _ k ι (h.step st J C rfl H a3 (h.hs.mz b0.below.plain) (fun _ _ h=>h) (fun v' D=>?_) (fun _=>a5) (fun t v' y _ _ Z=>Z.mono b0.below.plain.size (fun b _ hb=>hb) (fun b p0 _=>b0.below.plain.block b p0) (fun _ _ h=>h)));rw[a4]at D;injection D with D;subst D;exact h3
   ·exact W.elim
  ·exact W.elim
 | a lo n =>
  obtain⟨s1,e0⟩:=h.uM st J C rfl i0 H;obtain⟨T,d,cs,x1,L,hd,l2,m2,hz,f0⟩:=dy.a i o lo n J C;obtain⟨b1,b2,b3,b4⟩:=f0 k s1 e0;have hw:Region.wanted o (yielded ops a.tmps)=true:=by simp[Region.wanted,x1]
  rw[lc hw];have I:=h.al i o _ d J C rfl hd i0;unfold eZ at hz;cases o0:u.P.info? T with
  | none=>simp[o0]at hz
  | some it =>
   cases t1:it.zero with
   | none=>simp[o0,t1]at hz
   | some zv =>
    simp only[o0,iF,t1]at hz;have hc:=nc (NN u.M ι) w ι hz;left;have l0:(execOp a.eval o).run u.P w=.ok (.value (.pointer (some ⟨w.heap.size,0,none⟩))) (w.alloc (.cells zv.cells T)):=by
     unfold execOp;simp[L,Instr.alloc,zeroValue,typeInfo,o0,t1,newVar,newRow]
    unfold Oper.wp;rw[l0];show X _ _;rw[hd];have x0:=h.hs.aiT (d:=d) I b4 b2 (T:=T) (fun q=>by omega) b1 hc;simp only[afM]at x0;refine hK _ _ k _ (h.step st J C rfl H hd x0 (fun id m0 hn=>(bS _ _ m0).trans hn) (fun v' D=>?_) (fun _=>u7 l2 (Nat.min_le_left _ _)) (fun t v' y _ _ Z=>Z.mono (by simp) (fun b hb Q=>?_) (fun b hb _=>u4 _ _ _ hb) (ff I _)))
    ·rw[b3]at D;injection D with D;subst D;exact .ptr _ _ _ _ (cI _ _ _)
    ·rcases gg Q with Q|Q
     ·exact Q
     ·injection Q with Q;simp only[]at Q;omega
 | o lo n =>
  obtain⟨s1,e0⟩:=h.uM st J C rfl i0 H;obtain⟨d,a3,a5,m2,f0⟩:=dy.o i o lo n J C;obtain⟨hg,W⟩:=f0 k s1 e0;have hw:=h.wanted st J C H hg;rw[lc hw];have I:=h.al i o _ d J C rfl a3 i0;unfold BF at W;split at W
  ·rename_i cl L;split at W
   ·rename_i fo O;obtain⟨f,aO,l,V,id,ar,y1,a1,a2,a6,a8,a9,L1,hT,hR,hO,hU⟩:=W;have n1:((σ k).tt (cu (eJ ops p listed) (σ k).t)).ev fo=some (.fn f aO):=by
     cases fo with
     | tmp t =>
      show look t (cu _ _)=_;rw[eQ,lc (U (.tmp t) t (by simp[L,Op.operands,Call.operands,O]) rfl)];exact a1
     | const v=>exact a1
     | func g=>exact a1
     | global g=>exact a1
    have hl:dk ((σ k).tt (cu (eJ ops p listed) (σ k).t)) cl.args.toList=some l:=by
     rw[qu];exact a2;intro x hx;cases x with
     | tmp t =>
      show look t (cu _ _)=look t _;rw[eQ,lc (U (.tmp t) t (by simp[L,Op.operands,Call.operands,O];exact .inr (Do.1 hx)) rfl)]
     | const v=>rfl
     | func g=>rfl
     | global g=>rfl
    left;unfold Oper.wp;obtain⟨ys,r1,l1,m1⟩:=kx M L O n1 a8;rw[r1,aeq];refine (a9 (NN u.M ι) w _ (fun b hb=>lW M.hs hb) (Aj M hl a6 l1 m1)).mono ?_
    rintro e w' ⟨x,v,s3,ι1,rfl,⟨rfl,o1⟩,b0,hr⟩
    obtain⟨y,hy⟩:=L1 _ _ _ _ hr;obtain⟨y0,j2⟩:=h.hs.af2 b0 y1 hy o1 I hU hO hR;have h3:Rel (NN u.M (ext ι d y)) w' (ext ι d y) (v.fY id d) x:=hr.fY j2 (fun z hz=>by rw[hy]at hz;injection hz with hz;subst hz;exact cI _ _ _);rw[a3];refine hK _ _ k _ (h.step st J C rfl H a3 y0 (fun S2 m0 hn=>(bS _ _ m0).trans hn) (fun v' D=>?_) (fun _=>a5) (fun t v' y' _ _ Z=>Z.mono b0.below.plain.size (fun b hb Q=>?_) (fun b p0 _=>b0.below.plain.block b p0) (ff I _)))
    ·rw[hT]at D;injection D with D;subst D;exact h3
    ·rcases gg Q with Q|Q
     ·exact Q
     ·rcases (b0.own id b (by rw[hy];exact Q)).1 with h9|h9;exact absurd hb (akq.2 h9);exact h9.elim
   ·exact W.elim
  ·rename_i T n' parts L;obtain⟨rfl,rfl,e,sz,x2,hz,hT,hR,hO,hU⟩:=W;left;have x0:(sizeOf e).run u.P w=.ok sz w:=by
    cases hi:u.P.info? e with
    | none=>simp[cC,hi]at hz
    | some it =>
     have : it.size=sz:=by simpa[cC, hi]using hz
     simp[sizeOf,typeInfo,hi,this]
   have l0:(execOp a.eval o).run u.P w=.ok (.value (.slice (some ⟨w.heap.size,0,none⟩) 0 0)) (w.alloc (.cells #[] e)):=by
    unfold execOp;have r0:Array.range 0 = #[]:=rfl;simp[L,Instr.buildSlice,pt x2,x0,Instr.fill,newRow,r0]
   unfold Oper.wp;rw[l0];show X _ _;rw[a3];have y0:=h.hs.NF (vs:=[]) I hU hO hR rfl (u6 _) (by simp) (fun c hc=>(by cases hc)) (fun v hv=>(by cases hv)) (fun j c Y=>by simp at Y);simp only[th]at y0;refine hK _ _ k _ (h.step st J C rfl H a3 y0 (fun id m0 hn=>(bS _ _ m0).trans hn) (fun v' D=>?_) (fun _=>a5) (fun t v' y _ _ Z=>Z.mono (by simp) (fun b hb Q=>?_) (fun b hb _=>u4 _ _ _ hb) (ff I _)))
   ·rw[hT]at D;injection D with D;subst D;exact .ref _ _ _ _ _ (cI _ _ _)
   ·rcases gg Q with Q|Q
    ·exact Q
    ·injection Q with Q;simp only[]at Q;omega
  ·rename_i T x y L;obtain⟨kd,kd',m,e,sz,bytes,zc,hx,hy,w2,hz,hb,hT,hR,hO,hU⟩:=W;have z2:((σ k).tt (cu (eJ ops p listed) (σ k).t)).ev x=some (.int kd m):=by
    cases x with
    | tmp t=>show look t (cu _ _)=_;rw[eQ,lc (U (.tmp t) t (by simp[L,Op.operands]) rfl)];exact hx
    | const v=>exact hx
    | func g=>exact hx
    | global g=>exact hx
   have D2:((σ k).tt (cu (eJ ops p listed) (σ k).t)).ev y=some (.int kd' m):=by
    cases y with
    | tmp t=>show look t (cu _ _)=_;rw[eQ,lc (U (.tmp t) t (by simp[L,Op.operands]) rfl)];exact hy
    | const v=>exact hy
    | func g=>exact hy
    | global g=>exact hy
   left;obtain⟨vs,l0,q1,q2,q3,q4,q5⟩:=Tr (P:=u.P) (N:=NN u.M ι) w w2 hz hb kd kd';unfold Oper.wp execOp;simp only[L,sj,l7 M z2,l7 M D2,l0,u3,IT];show X _ _;rw[a3];have y0:=h.hs.NF (vs:=vs) I hU hO hR (by simp) q1 q2 q3 q4 q5;refine hK _ _ k _ (h.step st J C rfl H a3 y0 (fun id m0 hn=>(bS _ _ m0).trans hn) (fun v' D=>?_) (fun _=>a5) (fun t v' y _ _ Z=>Z.mono (by simp) (fun b hb Q=>?_) (fun b hb _=>u4 _ _ _ hb) (ff I _)))
   ·rw[hT]at D;injection D with D;subst D;exact .ref _ _ _ _ _ (cI _ _ _)
   ·rcases gg Q with Q|Q
    ·exact Q
    ·injection Q with Q;simp only[]at Q;omega
  ·exact W.elim
 | off lo n =>
  obtain⟨s1,e0⟩:=h.uM st J C rfl i0 H;obtain⟨f0,k1⟩:=dy.off i o lo n J C;obtain⟨hg,x1⟩:=f0 k s1 e0;have hw:=h.wanted st J C H hg;rw[kb (by rw[hw];simp)];obtain⟨d,hd,c0⟩:=st.dst i o _ J C rfl;rw[hd];refine hK _ _ k ι (h.step st J C rfl H hd h.hs (fun _ _ h=>h) (fun v' D=>?_) (fun hs=>?_) (fun t v' y _ _ Z=>Z))
  ·rcases k1 d k hd h.kK with h0|⟨h0,_⟩
   ·rw[h0]at D;cases D
   ·rw[h0]at D;injection D with D;subst D
    exact .tup _ _ [] rfl (fun i x v hx _=>by simp at hx)
  ·rcases k1 d k hd h.kK with h0|⟨_,h0⟩
   ·rw[h0]at hs;cases hs
   ·exact h0
theorem dp.any{l:Exit→Act→World→Prop}(x:Stat ops p K)(d:p.length=ops.size)(A:nt u.P u.n B ops p K σ)(C:∀a w ι,aU u (σ K) a w ι→l .normal a w):
  ∀(b:Nat) (listed:Array Bool) (a:Act) (w:World) (k:Nat) (ι:Env),jx listed=b→dp u ops p K σ listed a w k ι→wpAny u.P .any ops l b listed a w:=by
 have g:∀(listed:Array Bool) (a:Act) (w:World) (k:Nat) (ι:Env),dp u ops p K σ listed a w k ι→(∀i,i<ops.size→listed[i]?=some true)→l .normal a w:=by
  intro listed a w k ι h c;have F:k=K:=by
   have:=h.kK;rcases x.last with L|⟨i,f⟩
   ·omega
   ·have m:i<ops.size:=by rw[←d];exact(jf.1 f).1
    have:=(h.wr i K f).1 (c i m);omega
  subst F;exact C a w ι ⟨h.hs,h.dfr,h.n,fun t v H=>h.tmp t v H (fun i o N j _ _ _=>c i (qk.1 j).1)⟩
 intro b
 induction b with
 | zero =>
  intro listed a w k ι y h;have c:∀i,i<ops.size→listed[i]?=some true:=fun i f=>AK y i (by rw[h.sz];exact f);refine⟨?_,g listed a w k ι h c⟩;cases s:Region.ready .any ops listed with
  | nil=>rfl
  | cons i r =>
   exfalso;obtain⟨e,o,j,_⟩:=lA (ops:=ops) (listed:=listed) (i:=i) (by rw[s];simp);exact e (c i (qk.1 j).1)
 | succ b I =>
  intro listed a w k ι y h;refine⟨fun s=>g listed a w k ι h (ZW x d h.sz s),fun i f=>?_⟩;obtain⟨_,M,q,_⟩:=lA f;refine h.one x A (by rw[d];exact(qk.1 q).1) f (fun z w' J ι' G=>I _ z w' J ι' ?_ G);obtain⟨e,o,j,_⟩:=lA f;have n:i<listed.size:=by rw[h.sz];exact(qk.1 j).1
  have E:listed[i]?=some false:=by
   rw[la n]at e⊢;cases D:listed[i] with
   | true=>rw[D]at e;exact(e rfl).elim
   | false=>rfl
  have:=yY E;omega
theorem dp.start(H:Stat ops p K)(f:nt u.P u.n B ops p K σ){a:Act}{w:World}{ι:Env}(x:aU u B a w ι):dp u ops p K σ (Array.replicate ops.size false) a { w with drawn:=w.drawn+1 } 0 ι:=by
 have C:Below w.heap.size w { w with drawn:=w.drawn+1 }:=⟨rfl,rfl,rfl,ll _,fun _ _=>rfl⟩;have q:=x.mz C;refine⟨by simp,fun i o s l=>?_,u6 _,fun i m r=>?_,?_,fun i o G d s A E z _=>?_,q.dfr,q.n,fun t v M F=>?_⟩
 ·rw[aks]at l;split at l<;>cases l
 ·constructor
  ·intro l;rw[aks]at l;split at l<;>cases l
  ·intro J;have D:i<ops.size:=by have:=(jf.1 r).1;have:=H.len;omega
   have:=(H.chain i _ m (la D) r).1;omega
 ·have c:=q.hs;have n:∀id,has B.u id=true→has (σ 0).u id=true:=fun id h=>(abt h).elim (fun h=>fk (f.i3 id h)) (fun h=>by unfold has;rw[alg h,Bool.or_true]);refine⟨c.below,c.old,fun i y N=>n i (c.use i y N),c.own,c.inj,fun i cs k=>(f.i4 i cs k).elim (fun h=>h) (fun h=>n i (c.ko i cs h)),fun i a k=>?_,fun i cs k e=>?_,fun i a k e=>?_,fun i y e=>⟨(c.pin i y e).1,f.i3 _ (c.pin i y e).2⟩⟩
  ·exact(f.i6 i a k).elim (fun h=>h) (fun h=>n i (c.kr i a h))
  ·rcases f.i2 i cs k with g|g
   ·exact c.objs i cs g e
   ·have:=c.free g;rw[this]at e;cases e
  ·rcases f.i1 i a k with g|g
   ·exact c.arrs i a g e
   ·have:=c.free g;rw[this]at e;cases e
 ·cases G with
  | a lo m =>
   obtain⟨T,I,cs,_,_,b,_,j,_⟩:=f.a i o lo m s A;rw[z]at b;injection b with b;subst b
   exact q.hs.free j
  | o lo m =>
   obtain⟨I,b,_,j,_⟩:=f.o i o lo m s A;rw[z]at b;injection b with b;subst b
   exact q.hs.free j
  | _=>cases E
 ·rcases f.i5 t v M with⟨i,o,G,s,A,L,z⟩|g
  ·have:=F i o G s A L z;rw[aks]at this;split at this<;>cases this
  ·exact q.tmp t v g
theorem agK{Q:Exit→Act→World→Prop}{e:dt}{id:Nat}(σ:Nat→AS)(p:List Tag)(K:Nat)(g:u.P.follows .mixedOrders=true)(f:Stat ops p K)(b:p.length=ops.size)(d:nt u.P u.n B ops p K σ)
  (h:VE u Q e .normal (σ K)):VE u Q (.c (.region id ops true)::e) .normal B:=fun a w ι c=>by
 refine aml g (dp.any f b d (fun a w ι i=>h a w ι i) ops.size _ a _ 0 ι (by simp[jx]) (dp.start f d c))
end
def ey(lo:Nat):Nat→(Nat→Prop)→Prop
 | 0,_=>True
 | n+1,p=>p lo∧ey (lo+1) n p
theorem pm{p:Nat→Prop}:∀{n lo:Nat},ey lo n p→∀j,lo≤j→j<lo+n→p j
 | 0,lo,_,j,a,b=>by omega
 | n+1,lo,h,j,a,b=>by
  by_cases e:j=lo
  ·subst e;exact h.1
  ·exact pm h.2 j (by omega) (by omega)
def nth:g6→Nat→AS
 | [],_=>⟨[],[],[],[]⟩
 | s::_,0=>s
 | _::r,n+1=>nth r n
def gZ{α:Type}:List (Nat×α)→List (Nat×α)→List (Nat×α)
 | [],l=>l
 | (k,v)::r,l=>gZ r (bm k v l)
theorem wo{α:Type}:∀(m l:List (Nat×α)) (k:Nat) (v:α),look k (gZ m l)=some v→(∃p∈m,p.1=k)∨look k l=some v
 | [],l,k,v,h=>.inr h
 | (j,x)::r,l,k,v,h=>by
  rcases wo r _ k v h with⟨p,b,e⟩|a
  ·exact .inl ⟨p,ol _ b,e⟩
  ·rw[cv]at a;by_cases e:k=j
   ·exact .inl ⟨(j,x),ti,e.symm⟩
   ·rw[kb e]at a;exact .inr a
def Bs(P:Program)(n:Nat)(s:AS)(o:Oper):Prop :=
 match o.op with
 | .call c=>match c.callee with
  | .value a=>match s.ev a,dk s c.args.toList,o.dst with
   | some (.fn f aO),some l,some d=>match look d s.t with
    | some V=>d<n∧dW [] l=true∧V.dg []=true∧cF P f=true∧aX P f (l.map gF++aO) (fun v _=>v=V)
    | none=>False
   | _,_,_=>False
  | _=>False
 | _=>False
theorem YW{P:Program}{n:Nat}{ops:Array Oper}{s:AS}{o:Oper}(h:Bs P n s o∨(Jm P n s o∨Iy P n ops s o)):P4 P n ops s o:=by
 rcases h with h|h
 case inr=>exact .inr h
 left;unfold Bs at h;unfold FB;split at h
 ·split at h
  ·split at h
   ·rename_i f aO l d a b c;split at h
    ·rename_i V e;exact⟨f,aO,l,V,d,a,b,c,e,h.1,h.2.1,h.2.2.1,h.2.2.2.1,h.2.2.2.2⟩
    ·cases h
   ·cases h
  ·cases h
 ·cases h
def Fr(P:Program)(n:Nat)(a:AS)(o:Oper)(p:Nat→c6→Prop):Prop :=
 match o.op with
 | .alloc T=>match o.dst,eZ P T with
  | some d,some cs=>d<min n 450000∧has a.u d=false∧p d cs
  | _,_=>False
 | _=>False
def Iv(n:Nat)(o:Oper)(s:AS):Prop:=match o.dst with|some d=>look d s.t=none∨(look d s.t=some (.tup [])∧d<n)|none=>True
def fv(P:Program)(n:Nat)(c:AS)(b:Array Oper)(K:Nat)(a:g6)(o:Oper):Tag→Prop
 | .s 0=>False
 | .s (m+1)=>hJ b (nth a m) true o.guard∧(cb P n (nth a m) o=some (nth a (m+1))∨I5 P n b (nth a m) (nth a (m+1)) o)
 | .v lo k=>ey lo k fun j=>hJ b (nth a j) true o.guard∧cb P n (nth a j) o=some (nth a j)
 | .c lo k=>ey lo k fun j=>hJ b (nth a j) true o.guard∧(Bs P n (nth a j) o∨(Jm P n (nth a j) o∨Iy P n b (nth a j) o))
 | .a lo k=>o.guard=none∧Fr P n c o fun d cs=>ey lo k fun j=>look d (nth a j).o=some cs∧look d (nth a j).r=none∧look d (nth a j).t=some (.ptr d 0)∧has (nth a j).u d=true
 | .o lo k=>∃d,o.dst=some d∧d<n∧has c.u d=false∧ey lo k fun j=>hJ b (nth a j) true o.guard∧BF P n (nth a j) o d
 | .off lo k=>o.guard≠none∧(ey lo k fun j=>hJ b (nth a j) false o.guard)∧ey 0 (K+1) fun j=>Iv n o (nth a j)
def fd(P:Program)(n:Nat)(b:AS)(a:Array Oper)(K:Nat)(c:g6):List Oper→List Tag→Prop
 | o::r,t::ts=>fv P n b a K c o t∧fd P n b a K c r ts
 | _,_=>True
theorem QJ{P:Program}{n:Nat}{d:AS}{a:Array Oper}{K:Nat}{e:g6}:∀{l:List Oper} {ts:List Tag},fd P n d a K e l ts→∀(i:Nat) (o:Oper) (t:Tag),l[i]?=some o→ts[i]?=some t→fv P n d a K e o t
 | [],_,_,i,o,t,h,_=>by simp at h
 | _::_,[],_,i,o,t,_,h=>by simp at h
 | f::r,g::ts,h,0,o,t,b,c=>by simp at b c;subst b;subst c;exact h.1
 | f::r,g::ts,h,i+1,o,t,b,c=>QJ h.2 i o t (by simpa using b) (by simpa using c)
def gt(s:AS)(c:h8)(a:io)(b:List (Nat×co)):AS:={ t:=gZ c s.t,o:=gZ a s.o,r:=gZ b s.r,u:=b.map (·.1)++(a.map (·.1)++s.u) }
def fresh{α:Type}(u:eb):List (Nat×α)→Prop
 | []=>True
 | (k,_)::r=>has u k=false∧fresh u r
theorem Gt{α:Type}{u:eb}:∀{l:List (Nat×α)},fresh u l→∀p∈l,has u p.1=false
 | [],_,p,a=>by cases a
 | (k,x)::r,h,p,a=>by
  rcases oR.1 a with rfl|a
  ·exact h.1
  ·exact Gt h.2 p a
end Go.Proofs.YtocgkfoifehcbaaGreat

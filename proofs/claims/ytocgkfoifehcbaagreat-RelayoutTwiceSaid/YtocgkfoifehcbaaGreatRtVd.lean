/- A region that draws its order, by explicit states and a proof for each operation. No program in sight. -/
import Derived.Test.YtocgkfoifehcbaaGreatRtVm
namespace Go.Proofs.YtocgkfoifehcbaaGreat
set_option linter.all false
open Go.RowKit
abbrev er:=List Tag
def ak0:=@List.contains_iff_mem
def u0:List Oper→er→Nat→Bool
 | o::r,t::ts,k=>(t.gh&&(match o.dst with|some d=>Nat.beq d k|none=>false))||u0 r ts k
 | _,_,_=>false
theorem RW:∀{l:List Oper} {ts:er} {k:Nat},u0 l ts k=true→∃(i:Nat) (o:Oper) (e:Tag),l[i]?=some o∧ts[i]?=some e∧e.gh=true∧o.dst=some k
 | [],_,_,h=>by simp[u0]at h
 | _::_,[],_,h=>by simp[u0]at h
 | o::r,t::ts,k,h=>by
  simp only[u0,IF,iO]at h;rcases h with⟨j,f⟩|h
  ·cases g:o.dst with
   | none=>grind
   | some d =>
    rw[g]at f;have:=n3 f;subst this;exact⟨0,o,t,rfl,rfl,j,g⟩
  ·obtain⟨i,m,e,a,b,c,d⟩:=RW h;exact⟨i+1,m,e,by grind,by grind,c,d⟩
def lV(l:List Oper)(ts:er):il→Bool
 | []=>true
 | p::r=>u0 l ts p.1&&lV l ts r
theorem Il{l}{ts}:∀{b},lV l ts b=true→∀p∈b,∃(i:Nat) (o:Oper) (c:Tag),l[i]?=some o∧ts[i]?=some c∧c.gh=true∧o.dst=some p.1
 | [],_,p,a=>by grind
 | q::r,h,p,a=>by
  simp only[lV,iO]at h;rcases ol.1 a with rfl|a
  ·grind[RW]
  ·exact Il h.2 p a
def iM{α:Type}(u:ed):List (Nat×α)→Bool
 | []=>true
 | (k,_)::r=>!has u k&&iM u r
theorem HM{α}{u}:∀{l:List (Nat×α)},iM u l=true→fresh u l
 | [],_=>trivial
 | (k,x)::r,h=>by
  simp only[iM,iO,Qf]at h;exact⟨h.1,HM h.2⟩
theorem AJ{P:Program}{n:Nat}{ops:Array Oper}{e:AS}(g:er)(K:Nat)(J:il)(w:iF)(x:List (Nat×cg))(D:g6)
  (C:lV ops.toList g J=true) (H:iM e.u w=true) (B:iM e.u x=true) (h:nth D 0=gt e J w x) (R:eL P n e ops K D ops.toList g):k9 P n e ops g K (nth D):=by
 have U:=HM H;have G:=HM B;have z:∀(i:Nat) (o:Oper) (t:Tag),ops[i]?=some o→g[i]?=some t→fC P n e ops K D o t:=fun i o t l q=>Nj R i o t (by simpa using l) q;refine⟨fun i o m l q=>z i o _ l q,fun i o lo k l q j b c=>qX (z i o _ l q) j b c,fun i o lo k l q j b c=>?_,fun i o lo k l q=>?_,fun i o lo k l q=>?_,fun i o lo k l q=>?_,fun id a f=>?_,fun id a f=>?_,fun id cs f=>?_,fun id f=>?_,fun id cs f=>?_,fun t v L=>?_⟩
 ·have:=qX (z i o _ l q) j b c;exact⟨this.1,aeY this.2⟩
 ·have s:=z i o _ l q;obtain⟨A,r⟩:=s;unfold HQ at r;split at r
  ·rename_i T I;split at r
   ·rename_i d cs F V;exact⟨T,d,cs,A,I,F,r.1,r.2.1,V,fun j b c=>qX r.2.2 j b c⟩
   ·cases r
  ·cases r
 ·obtain⟨A,r,E⟩:=z i o _ l q;refine⟨fun j b c=>⟨qX r j b c,A⟩,fun d j F X=>?_⟩;have:=qX E j (v9 _) (by omega);unfold I9 at this;rw[F]at this;exact this
 ·obtain⟨d,A,r,E,S⟩:=z i o _ l q;exact⟨d,A,r,E,fun j b c=>qX S j b c⟩
 ·rw[h]at f;rcases tX x e.r id a f with⟨p,u,rfl⟩|s
  ·exact .inr (FR G p u)
  ·exact .inl s
 ·rw[h]at f⊢;show has (x.map (·.1)++(w.map (·.1)++e.u)) id=true∨_;have y:look id (gP x e.r)=some a:=f;rcases tX x e.r id a y with⟨p,u,rfl⟩|s
  ·refine .inl (fq ?_);simp only[ak0,nw,Do];exact .inl ⟨p,u,rfl⟩
  ·exact .inr s
 ·rw[h]at f;rcases tX w e.o id cs f with⟨p,u,rfl⟩|s
  ·exact .inr (FR U p u)
  ·exact .inl s
 ·rw[h];show(x.map (·.1)++(w.map (·.1)++e.u)).contains id=true;simp only[ak0,nw]at f⊢;exact .inr (.inr f)
 ·rw[h]at f⊢;show has (x.map (·.1)++(w.map (·.1)++e.u)) id=true∨_;have y:look id (gP w e.o)=some cs:=f;rcases tX w e.o id cs y with⟨p,u,rfl⟩|s
  ·refine .inl (fq ?_);simp only[ak0,nw,Do];exact .inr (.inl ⟨p,u,rfl⟩)
  ·exact .inr s
 ·rw[h]at L;rcases tX J e.t t v L with⟨p,u,rfl⟩|s
  ·obtain⟨i,o,W,M,N,O,Q⟩:=Il C p u;exact .inl ⟨i,o,W,by simpa using M,N,O,Q⟩
  ·exact .inr s
theorem acU{b}{Q}{p}{id}{c}{ops}{f sK} a K m i l g
  (r:c=.region id ops true) (t:b.P.follows .mixedOrders=true) (o:zJ ops a K=true) (n:ni a K=true) (e:lV ops.toList a m=true) (k:iM f.u i=true) (d:iM f.u l=true)
  (j:nth g 0=gt f m i l) (q:eL b.P b.n f ops K g ops.toList a) (s:nth g K=sK) (h:VE b Q p .normal sK):VE b Q (.c c::p) .normal f:=by
 subst r;have u:=ahZ o n;exact aij (nth g) a K t u (ab8 o n) (AJ a K m i l g e k d j q) (s ▸ h)
theorem aar{e}{Q}{m}{id}{c}{ops}{b} a K j d i l
  (o:c=.region id ops true) (q:e.P.follows .mixedOrders=true) (r:zJ ops a K=true) (p:ni a K=true) (g:lV ops.toList a j=true) (k:iM b.u d=true) (f:iM b.u i=true)
  (n:eL e.P e.n b ops K (gt b j d i::l) ops.toList a) (h:VE e Q m .normal (nth (gt b j d i::l) K)):VE e Q (.c c::m) .normal b :=
 acU a K j d i (gt b j d i::l) o q r p g k f rfl n rfl h
section
variable{P:Program}{n:Nat}{i:AS}{a:Array Oper}{K:Nat}{g:g6}
theorem ajo{l r}{o}{t}{ts}(c:l=o::r)(h:fC P n i a K g o t)(b:eL P n i a K g r ts):eL P n i a K g l (t::ts):=by
 subst c;exact⟨h,b⟩
theorem abG{l}(b:l=[]):eL P n i a K g l []:=by subst b;trivial
theorem ft{lo}{p}:eh lo 0 p:=trivial
theorem da{lo k}{p}(h:p lo)(a:eh (lo+1) k p):eh lo (k+1) p:=⟨h,a⟩
theorem Bn{s}{o}(h:cE a s o=true):gW a s true o.guard:=by
 grind[cE,gW,oL]
def Ch(a:Array Oper)(s:AS)(o:Oper):Bool:=match o.guard with
 | none=>false
 | some (j,b)=>match rO a s j with
  | some v=>(match v,b with|true,false=>true|false,true=>true|_,_=>false)
  | none=>DU a s j
theorem aig{s}{o}(h:Ch a s o=true):gW a s false o.guard∧o.guard≠none:=by
 grind[Ch,gW,oL,P9]
theorem MW{o:Oper}{m:Nat}(b:o.guard.isNone=true)(h:ca P n (nth g m) o=some (nth g (m+1))):fC P n i a K g o (.s (m+1)):=⟨by rw[show o.guard=none by simpa using b];rfl,.inl h⟩
theorem fh{o}{lo k}(h:eh lo k fun j=>cE a (nth g j) o=true∧ca P n (nth g j) o=some (nth g j)):fC P n i a K g o (.v lo k):=by
 revert lo
 induction k with
 | zero=>intro lo _;trivial
 | succ k b=>intro lo h;exact⟨⟨Bn h.1.1,h.1.2⟩,b h.2⟩
theorem k_c{o:Oper}{lo k:Nat}{f:FuncId}{e:c6}(V:AV)(w:bc P f e (fun v _=>v=V))(p:cK P f=true)(B:V.di []=true)(d:Nat)(x:o.dst=some d)(q:Nat.ble (d+1) n=true)
  (h:eh lo k fun j=>cE a (nth g j) o=true∧d8 (nth g j) o=some (f,e)∧look d (nth g j).t=some V):fC P n i a K g o (.c lo k):=by
 show eh lo k _;revert lo
 induction k with
 | zero=>intro lo _;trivial
 | succ k C =>
  intro lo h;refine⟨⟨Bn h.1.1,.inl ?_⟩,C h.2⟩;obtain⟨_,b,u⟩:=h.1;unfold d8 at b;unfold CA;split at b
  ·rename_i c r;split at b
   ·rename_i E m;split at b
    ·rename_i D aS l y z;split at b
     ·rename_i A;injection b with b;injection b with s t;subst s
      simp only[r,m,y,z,x,u];exact⟨j3 q,A,B,p,t ▸ w⟩
     ·cases b
    ·cases b
   ·cases b
  ·cases b
theorem k_a{o:Oper}{lo k} T(d:Nat) cs(m:o.guard.isNone=true)(c:o.op=.alloc T)(e:o.dst=some d)(b:Nat.ble (d+1) (min n 450000)=true)(l:fe P T=some cs)(f:has i.u d=false)
  (h:eh lo k fun j=>look d (nth g j).o=some cs∧look d (nth g j).r=none∧look d (nth g j).t=some (.ptr d 0)∧has (nth g j).u d=true):fC P n i a K g o (.a lo k):=by
 refine⟨by simp_all,?_⟩;unfold HQ;rw[c];simp only[e,l];exact⟨j3 b,f,h⟩
theorem AF{p q}(a:∀j,p j→q j):∀{k lo},eh lo k p→eh lo k q
 | 0,_,_=>trivial
 | _+1,_,h=>⟨a _ h.1,AF a h.2⟩
theorem k_o{o:Oper}{lo k:Nat}{f:FuncId}{e:c6}(V:AV){id:Nat}{ar:cg}(d:Nat)(t:Nat.ble (id+1) TG=true)(D:bc P f e (fun v H=>v=V∧look id H.r=some ar))(q:cK P f=true)(p:∀(N:Nat→Prop) w ι x,Rel N w ι V x→∃y,ι id=some y)
  (E:o.dst=some d) (r:Nat.ble (d+1) n=true) (u:has i.u d=false)
  (h:eh lo k fun j=>cE a (nth g j) o=true∧d8 (nth g j) o=some (f,e)∧look d (nth g j).t=some (V.fZ id d)∧look d (nth g j).r=some ar∧look d (nth g j).o=none∧has (nth g j).u d=true):fC P n i a K g o (.o lo k):=by
 refine⟨d,E,j3 r,u,AF (fun j z=>⟨Bn z.1,?_⟩) h⟩;obtain⟨_,b,C⟩:=z;unfold d8 at b;unfold xN;split at b
 ·rename_i c s;split at b
  ·rename_i J m;split at b
   ·rename_i I aS l F G;split at b
    ·rename_i u;injection b with b;injection b with A B;subst A
     simp only[s,m];exact⟨_,aS,l,V,id,ar,j3 t,F,G,u,q,B ▸ D,p,C⟩
    ·cases b
   ·cases b
  ·cases b
 ·cases b
theorem aae{o:Oper}{lo k:Nat}(m:o.guard.isSome=true)(h:eh lo k fun j=>Ch a (nth g j) o=true)(f:eh 0 (K+1) fun j=>(match o.dst with|some d=>(match look d (nth g j).t with|none=>true|some (.tup [])=>Nat.ble (d+1) n|_=>false)|none=>true)=true):fC P n i a K g o (.off lo k):=by
 refine⟨fun e=>(by grind),AF (fun j b=>(aig b).1) h,AF (fun j b=>?_) f⟩;unfold I9;cases l:o.dst with
 | none=>grind
 | some d =>
  rw[l]at b;simp only[]at b⊢;split at b
  ·grind
  ·rename_i c;exact .inr ⟨c,j3 b⟩
  grind
theorem dc{s}{o}{s'}(h:ca P n s o=some s')(a:s'=s):ca P n s o=some s:=by grind
theorem We{s}{o}(d:Nat){e b}(a:e=b)(h:ca P n s o=some (s.put (some d) (.bool e)))(c:s.put (some d) (.bool b)=s):ca P n s o=some s:=by grind
end
end Go.Proofs.YtocgkfoifehcbaaGreat

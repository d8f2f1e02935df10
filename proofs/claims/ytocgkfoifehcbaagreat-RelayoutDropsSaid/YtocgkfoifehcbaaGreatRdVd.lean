/- A region that draws its order, by explicit states and a proof for each operation. No program in sight. -/
import Derived.Test.YtocgkfoifehcbaaGreatRdVm
namespace Go.Proofs.YtocgkfoifehcbaaGreat
set_option linter.all false
open Go.RowKit
abbrev es:=List Tag
def alN:=@List.contains_iff_mem
def sC:List Oper→es→Nat→Bool
 | o::r,t::ts,k=>(t.gm&&(match o.dst with|some d=>Nat.beq d k|none=>false))||sC r ts k
 | _,_,_=>false
theorem QR:∀{l:List Oper} {ts:es} {k:Nat},sC l ts k=true→∃(i:Nat) (o:Oper) (e:Tag),l[i]?=some o∧ts[i]?=some e∧e.gm=true∧o.dst=some k
 | [],_,_,h=>by simp[sC]at h
 | _::_,[],_,h=>by simp[sC]at h
 | o::r,t::ts,k,h=>by
  simp only[sC,Dk,iO]at h;rcases h with⟨j,f⟩|h
  ·cases g:o.dst with
   | none=>grind
   | some d =>
    rw[g]at f;have:=nx f;subst this;exact⟨0,o,t,rfl,rfl,j,g⟩
  ·obtain⟨i,m,e,a,b,c,d⟩:=QR h;exact⟨i+1,m,e,by grind,by grind,c,d⟩
def mX(l:List Oper)(ts:es):il→Bool
 | []=>true
 | p::r=>sC l ts p.1&&mX l ts r
theorem JU{l}{ts}:∀{b},mX l ts b=true→∀p∈b,∃(i:Nat) (o:Oper) (c:Tag),l[i]?=some o∧ts[i]?=some c∧c.gm=true∧o.dst=some p.1
 | [],_,p,a=>by grind
 | q::r,h,p,a=>by
  simp only[mX,iO]at h;rcases ol.1 a with rfl|a
  ·grind[QR]
  ·exact JU h.2 p a
def jO{α:Type}(u:ed):List (Nat×α)→Bool
 | []=>true
 | (k,_)::r=>!has u k&&jO u r
theorem Hc{α}{u}:∀{l:List (Nat×α)},jO u l=true→fresh u l
 | [],_=>trivial
 | (k,x)::r,h=>by
  simp only[jO,iO,acM]at h;exact⟨h.1,Hc h.2⟩
theorem Dh{P:Program}{n:Nat}{ops:Array Oper}{e:AS}(f:es)(K:Nat)(I:il)(u:iF)(w:List (Nat×cj))(C:g7)
  (B:mX ops.toList f I=true) (G:jO e.u u=true) (A:jO e.u w=true) (g:nth C 0=gE e I u w) (Q:fi P n e ops K C ops.toList f):mK P n e ops f K (nth C):=by
 have S:=Hc G;have F:=Hc A;have y:∀(i:Nat) (o:Oper) (t:Tag),ops[i]?=some o→f[i]?=some t→fv P n e ops K C o t:=fun i o t h l=>Tf Q i o t (by simpa using h) l;refine⟨fun i o m h l=>y i o _ h l,fun i o lo k h l j b c=>qp (y i o _ h l) j b c,fun i o lo k h l j b c=>?_,fun i o lo k h l=>?_,fun i o lo k h l=>?_,fun i o lo k h l=>?_,fun id a hi=>?_,fun id a hi=>?_,fun id cs hi=>?_,fun id hi=>?_,fun id cs hi=>?_,fun t v J=>?_⟩
 ·have:=qp (y i o _ h l) j b c;exact⟨this.1,aiz this.2⟩
 ·have r:=y i o _ h l;obtain⟨z,q⟩:=r;unfold JS at q;split at q
  ·rename_i T H;split at q
   ·rename_i d cs E U;exact⟨T,d,cs,z,H,E,q.1,q.2.1,U,fun j b c=>qp q.2.2 j b c⟩
   ·cases q
  ·cases q
 ·obtain⟨z,q,D⟩:=y i o _ h l;refine⟨fun j b c=>⟨qp q j b c,z⟩,fun d j E W=>?_⟩;have:=qp D j (u4 _) (by omega);unfold Fn at this;rw[E]at this;exact this
 ·obtain⟨d,z,q,D,R⟩:=y i o _ h l;exact⟨d,z,q,D,fun j b c=>qp R j b c⟩
 ·rw[g]at hi;rcases vZ w e.r id a hi with⟨p,s,rfl⟩|r
  ·exact .inr (He F p s)
  ·exact .inl r
 ·rw[g]at hi⊢;show has (w.map (·.1)++(u.map (·.1)++e.u)) id=true∨_;have x:look id (gS w e.r)=some a:=hi;rcases vZ w e.r id a x with⟨p,s,rfl⟩|r
  ·refine .inl (ft ?_);simp only[alN,n5,Dy];exact .inl ⟨p,s,rfl⟩
  ·exact .inr r
 ·rw[g]at hi;rcases vZ u e.o id cs hi with⟨p,s,rfl⟩|r
  ·exact .inr (He S p s)
  ·exact .inl r
 ·rw[g];show(w.map (·.1)++(u.map (·.1)++e.u)).contains id=true;simp only[alN,n5]at hi⊢;exact .inr (.inr hi)
 ·rw[g]at hi⊢;show has (w.map (·.1)++(u.map (·.1)++e.u)) id=true∨_;have x:look id (gS u e.o)=some cs:=hi;rcases vZ u e.o id cs x with⟨p,s,rfl⟩|r
  ·refine .inl (ft ?_);simp only[alN,n5,Dy];exact .inr (.inl ⟨p,s,rfl⟩)
  ·exact .inr r
 ·rw[g]at J;rcases vZ I e.t t v J with⟨p,s,rfl⟩|r
  ·obtain⟨i,o,V,L,M,N,O⟩:=JU B p s;exact .inl ⟨i,o,V,by simpa using L,M,N,O⟩
  ·exact .inr r
theorem agG{b}{Q}{p}{id}{c}{ops}{f sK} a K m i l g
  (r:c=.region id ops true) (t:b.P.follows .mixedOrders=true) (o:yn ops a K=true) (n:oy a K=true) (e:mX ops.toList a m=true) (k:jO f.u i=true) (d:jO f.u l=true)
  (j:nth g 0=gE f m i l) (q:fi b.P b.n f ops K g ops.toList a) (s:nth g K=sK) (h:VE b Q p .normal sK):VE b Q (.c c::p) .normal f:=by
 subst r;have u:=ad4 o n;exact acd (nth g) a K t u (ZA o n) (Dh a K m i l g e k d j q) (s ▸ h)
theorem Wn{e}{Q}{m}{id}{c}{ops}{b} a K j d i l
  (o:c=.region id ops true) (q:e.P.follows .mixedOrders=true) (r:yn ops a K=true) (p:oy a K=true) (g:mX ops.toList a j=true) (k:jO b.u d=true) (f:jO b.u i=true)
  (n:fi e.P e.n b ops K (gE b j d i::l) ops.toList a) (h:VE e Q m .normal (nth (gE b j d i::l) K)):VE e Q (.c c::m) .normal b :=
 agG a K j d i (gE b j d i::l) o q r p g k f rfl n rfl h
section
variable{P:Program}{n:Nat}{i:AS}{a:Array Oper}{K:Nat}{g:g7}
theorem abD{l r}{o}{t}{ts}(c:l=o::r)(h:fv P n i a K g o t)(b:fi P n i a K g r ts):fi P n i a K g l (t::ts):=by
 subst c;exact⟨h,b⟩
theorem W4{l}(b:l=[]):fi P n i a K g l []:=by subst b;trivial
theorem iJ{lo}{p}:eB lo 0 p:=trivial
theorem dR{lo k}{p}(h:p lo)(a:eB (lo+1) k p):eB lo (k+1) p:=⟨h,a⟩
theorem BG{s}{o}(h:cC a s o=true):ig a s true o.guard:=by
 grind[cC,ig,oF]
def DA(a:Array Oper)(s:AS)(o:Oper):Bool:=match o.guard with
 | none=>false
 | some (j,b)=>match vB a s j with
  | some v=>(match v,b with|true,false=>true|false,true=>true|_,_=>false)
  | none=>B7 a s j
theorem ai0{s}{o}(h:DA a s o=true):ig a s false o.guard∧o.guard≠none:=by
 grind[DA,ig,oF,VA]
theorem MB{o:Oper}{m:Nat}(b:o.guard.isNone=true)(h:cc P n (nth g m) o=some (nth g (m+1))):fv P n i a K g o (.s (m+1)):=⟨by rw[show o.guard=none by simpa using b];rfl,.inl h⟩
theorem ii{o}{lo k}(h:eB lo k fun j=>cC a (nth g j) o=true∧cc P n (nth g j) o=some (nth g j)):fv P n i a K g o (.v lo k):=by
 revert lo
 induction k with
 | zero=>intro lo _;trivial
 | succ k b=>intro lo h;exact⟨⟨BG h.1.1,h.1.2⟩,b h.2⟩
theorem k_c{o:Oper}{lo k:Nat}{f:FuncId}{e:c6}(V:AV)(w:aY P f e (fun v _=>v=V))(p:cI P f=true)(B:V.de []=true)(d:Nat)(x:o.dst=some d)(q:Nat.ble (d+1) n=true)
  (h:eB lo k fun j=>cC a (nth g j) o=true∧d9 (nth g j) o=some (f,e)∧look d (nth g j).t=some V):fv P n i a K g o (.c lo k):=by
 show eB lo k _;revert lo
 induction k with
 | zero=>intro lo _;trivial
 | succ k C =>
  intro lo h;refine⟨⟨BG h.1.1,.inl ?_⟩,C h.2⟩;obtain⟨_,b,u⟩:=h.1;unfold d9 at b;unfold CT;split at b
  ·rename_i c r;split at b
   ·rename_i E m;split at b
    ·rename_i D aR l y z;split at b
     ·rename_i A;injection b with b;injection b with s t;subst s
      simp only[r,m,y,z,x,u];exact⟨kb q,A,B,p,t ▸ w⟩
     ·cases b
    ·cases b
   ·cases b
  ·cases b
theorem k_a{o:Oper}{lo k} T(d:Nat) cs(m:o.guard.isNone=true)(c:o.op=.alloc T)(e:o.dst=some d)(b:Nat.ble (d+1) (min n 450000)=true)(l:ey P T=some cs)(f:has i.u d=false)
  (h:eB lo k fun j=>look d (nth g j).o=some cs∧look d (nth g j).r=none∧look d (nth g j).t=some (.ptr d 0)∧has (nth g j).u d=true):fv P n i a K g o (.a lo k):=by
 refine⟨by simp_all,?_⟩;unfold JS;rw[c];simp only[e,l];exact⟨kb b,f,h⟩
theorem CH{p q}(a:∀j,p j→q j):∀{k lo},eB lo k p→eB lo k q
 | 0,_,_=>trivial
 | _+1,_,h=>⟨a _ h.1,CH a h.2⟩
theorem Xf{o:Oper}{lo k:Nat}{f:FuncId}{e:c6}(V:AV){id:Nat}{ar:cj}(d:Nat)(t:Nat.ble (id+1) TG=true)(D:aY P f e (fun v H=>v=V∧look id H.r=some ar))(q:cI P f=true)(p:∀(N:Nat→Prop) w ι x,Rel N w ι V x→∃y,ι id=some y)
  (E:o.dst=some d) (r:Nat.ble (d+1) n=true) (u:has i.u d=false)
  (h:eB lo k fun j=>cC a (nth g j) o=true∧d9 (nth g j) o=some (f,e)∧look d (nth g j).t=some (V.f9 id d)∧look d (nth g j).r=some ar∧look d (nth g j).o=none∧has (nth g j).u d=true):fv P n i a K g o (.o lo k):=by
 refine⟨d,E,kb r,u,CH (fun j z=>⟨BG z.1,?_⟩) h⟩;obtain⟨_,b,C⟩:=z;unfold d9 at b;unfold Ey;split at b
 ·rename_i c s;split at b
  ·rename_i J m;split at b
   ·rename_i I aR l F G;split at b
    ·rename_i u;injection b with b;injection b with A B;subst A
     simp only[s,m];exact⟨_,aR,l,V,id,ar,kb t,F,G,u,q,B ▸ D,p,C⟩
    ·cases b
   ·cases b
  ·cases b
 ·cases b
theorem aa8{o:Oper}{lo k:Nat}(m:o.guard.isSome=true)(h:eB lo k fun j=>DA a (nth g j) o=true)(f:eB 0 (K+1) fun j=>(match o.dst with|some d=>(match look d (nth g j).t with|none=>true|some (.tup [])=>Nat.ble (d+1) n|_=>false)|none=>true)=true):fv P n i a K g o (.off lo k):=by
 refine⟨fun e=>(by grind),CH (fun j b=>(ai0 b).1) h,CH (fun j b=>?_) f⟩;unfold Fn;cases l:o.dst with
 | none=>grind
 | some d =>
  rw[l]at b;simp only[]at b⊢;split at b
  ·grind
  ·rename_i c;exact .inr ⟨c,kb b⟩
  grind
theorem ep{s}{o}{s'}(h:cc P n s o=some s')(a:s'=s):cc P n s o=some s:=by grind
theorem ab5{s}{o}(d:Nat){e b}(a:e=b)(h:cc P n s o=some (s.put (some d) (.bool e)))(c:s.put (some d) (.bool b)=s):cc P n s o=some s:=by grind
end
end Go.Proofs.YtocgkfoifehcbaaGreat

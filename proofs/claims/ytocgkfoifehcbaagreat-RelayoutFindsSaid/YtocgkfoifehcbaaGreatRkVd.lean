/- A region that draws its order, by explicit states and a proof for each operation. No program in sight. -/
import Derived.Test.YtocgkfoifehcbaaGreatRkVm
namespace Go.Proofs.YtocgkfoifehcbaaGreat
set_option linter.all false
open Go.RowKit
abbrev er:=List Tag
def ali:=@List.contains_iff_mem
def tV:List Oper→er→Nat→Bool
 | o::r,t::ts,k=>(t.f9&&(match o.dst with|some d=>Nat.beq d k|none=>false))||tV r ts k
 | _,_,_=>false
theorem SK:∀{l:List Oper} {ts:er} {k:Nat},tV l ts k=true→∃(i:Nat) (o:Oper) (e:Tag),l[i]?=some o∧ts[i]?=some e∧e.f9=true∧o.dst=some k
 | [],_,_,h=>by simp[tV]at h
 | _::_,[],_,h=>by simp[tV]at h
 | o::r,t::ts,k,h=>by
  simp only[tV,Io,iN]at h;rcases h with⟨j,f⟩|h
  ·cases g:o.dst with
   | none=>grind
   | some d =>
    rw[g]at f;have:=mo f;subst this;exact⟨0,o,t,rfl,rfl,j,g⟩
  ·obtain⟨i,m,e,a,b,c,d⟩:=SK h;exact⟨i+1,m,e,by grind,by grind,c,d⟩
def nH(l:List Oper)(ts:er):h8→Bool
 | []=>true
 | p::r=>tV l ts p.1&&nH l ts r
theorem F9{l}{ts}:∀{b},nH l ts b=true→∀p∈b,∃(i:Nat) (o:Oper) (c:Tag),l[i]?=some o∧ts[i]?=some c∧c.f9=true∧o.dst=some p.1
 | [],_,p,a=>by grind
 | q::r,h,p,a=>by
  simp only[nH,iN]at h;rcases oR.1 a with rfl|a
  ·grind[SK]
  ·exact F9 h.2 p a
def jC{α:Type}(u:eb):List (Nat×α)→Bool
 | []=>true
 | (k,_)::r=>!has u k&&jC u r
theorem G4{α}{u}:∀{l:List (Nat×α)},jC u l=true→fresh u l
 | [],_=>trivial
 | (k,x)::r,h=>by
  simp only[jC,iN,By]at h;exact⟨h.1,G4 h.2⟩
theorem Cy{P:Program}{n:Nat}{ops:Array Oper}{e:AS}(g:er)(K:Nat)(J:h8)(w:io)(x:List (Nat×co))(D:g6)
  (C:nH ops.toList g J=true) (H:jC e.u w=true) (B:jC e.u x=true) (h:nth D 0=gt e J w x) (R:fd P n e ops K D ops.toList g):nt P n e ops g K (nth D):=by
 have U:=G4 H;have G:=G4 B;have z:∀(i:Nat) (o:Oper) (t:Tag),ops[i]?=some o→g[i]?=some t→fv P n e ops K D o t:=fun i o t l q=>QJ R i o t (by simpa using l) q;refine⟨fun i o m l q=>z i o _ l q,fun i o lo k l q j b c=>pm (z i o _ l q) j b c,fun i o lo k l q j b c=>?_,fun i o lo k l q=>?_,fun i o lo k l q=>?_,fun i o lo k l q=>?_,fun id a f=>?_,fun id a f=>?_,fun id cs f=>?_,fun id f=>?_,fun id cs f=>?_,fun t v L=>?_⟩
 ·have:=pm (z i o _ l q) j b c;exact⟨this.1,YW this.2⟩
 ·have s:=z i o _ l q;obtain⟨A,r⟩:=s;unfold Fr at r;split at r
  ·rename_i T I;split at r
   ·rename_i d cs F V;exact⟨T,d,cs,A,I,F,r.1,r.2.1,V,fun j b c=>pm r.2.2 j b c⟩
   ·cases r
  ·cases r
 ·obtain⟨A,r,E⟩:=z i o _ l q;refine⟨fun j b c=>⟨pm r j b c,A⟩,fun d j F X=>?_⟩;have:=pm E j (u6 _) (by omega);unfold Iv at this;rw[F]at this;exact this
 ·obtain⟨d,A,r,E,S⟩:=z i o _ l q;exact⟨d,A,r,E,fun j b c=>pm S j b c⟩
 ·rw[h]at f;rcases wo x e.r id a f with⟨p,u,rfl⟩|s
  ·exact .inr (Gt G p u)
  ·exact .inl s
 ·rw[h]at f⊢;show has (x.map (·.1)++(w.map (·.1)++e.u)) id=true∨_;have y:look id (gZ x e.r)=some a:=f;rcases wo x e.r id a y with⟨p,u,rfl⟩|s
  ·refine .inl (fk ?_);simp only[ali,n5,BY];exact .inl ⟨p,u,rfl⟩
  ·exact .inr s
 ·rw[h]at f;rcases wo w e.o id cs f with⟨p,u,rfl⟩|s
  ·exact .inr (Gt U p u)
  ·exact .inl s
 ·rw[h];show(x.map (·.1)++(w.map (·.1)++e.u)).contains id=true;simp only[ali,n5]at f⊢;exact .inr (.inr f)
 ·rw[h]at f⊢;show has (x.map (·.1)++(w.map (·.1)++e.u)) id=true∨_;have y:look id (gZ w e.o)=some cs:=f;rcases wo w e.o id cs y with⟨p,u,rfl⟩|s
  ·refine .inl (fk ?_);simp only[ali,n5,BY];exact .inr (.inl ⟨p,u,rfl⟩)
  ·exact .inr s
 ·rw[h]at L;rcases wo J e.t t v L with⟨p,u,rfl⟩|s
  ·obtain⟨i,o,W,M,N,O,Q⟩:=F9 C p u;exact .inl ⟨i,o,W,by simpa using M,N,O,Q⟩
  ·exact .inr s
theorem Zs{b}{Q}{p}{id}{c}{ops}{f sK} a K m i l g
  (r:c=.region id ops true) (t:b.P.follows .mixedOrders=true) (o:yz ops a K=true) (n:nL a K=true) (e:nH ops.toList a m=true) (k:jC f.u i=true) (d:jC f.u l=true)
  (j:nth g 0=gt f m i l) (q:fd b.P b.n f ops K g ops.toList a) (s:nth g K=sK) (h:VE b Q p .normal sK):VE b Q (.c c::p) .normal f:=by
 subst r;have u:=abU o n;exact agK (nth g) a K t u (abS o n) (Cy a K m i l g e k d j q) (s ▸ h)
theorem ag8{e}{Q}{m}{id}{c}{ops}{b} a K j d i l
  (o:c=.region id ops true) (q:e.P.follows .mixedOrders=true) (r:yz ops a K=true) (p:nL a K=true) (g:nH ops.toList a j=true) (k:jC b.u d=true) (f:jC b.u i=true)
  (n:fd e.P e.n b ops K (gt b j d i::l) ops.toList a) (h:VE e Q m .normal (nth (gt b j d i::l) K)):VE e Q (.c c::m) .normal b :=
 Zs a K j d i (gt b j d i::l) o q r p g k f rfl n rfl h
section
variable{P:Program}{n:Nat}{i:AS}{a:Array Oper}{K:Nat}{g:g6}
theorem YL{l r}{o}{t}{ts}(c:l=o::r)(h:fv P n i a K g o t)(b:fd P n i a K g r ts):fd P n i a K g l (t::ts):=by
 subst c;exact⟨h,b⟩
theorem ada{l}(b:l=[]):fd P n i a K g l []:=by subst b;trivial
theorem iw{lo}{p}:ey lo 0 p:=trivial
theorem dZ{lo k}{p}(h:p lo)(a:ey (lo+1) k p):ey lo (k+1) p:=⟨h,a⟩
theorem CW{s}{o}(h:cH a s o=true):hJ a s true o.guard:=by
 grind[cH,hJ,oM]
def Ev(a:Array Oper)(s:AS)(o:Oper):Bool:=match o.guard with
 | none=>false
 | some (j,b)=>match u9 a s j with
  | some v=>(match v,b with|true,false=>true|false,true=>true|_,_=>false)
  | none=>DN a s j
theorem ahW{s}{o}(h:Ev a s o=true):hJ a s false o.guard∧o.guard≠none:=by
 grind[Ev,hJ,oM,Q1]
theorem OW{o:Oper}{m:Nat}(b:o.guard.isNone=true)(h:cb P n (nth g m) o=some (nth g (m+1))):fv P n i a K g o (.s (m+1)):=⟨by rw[show o.guard=none by simpa using b];rfl,.inl h⟩
theorem gV{o}{lo k}(h:ey lo k fun j=>cH a (nth g j) o=true∧cb P n (nth g j) o=some (nth g j)):fv P n i a K g o (.v lo k):=by
 revert lo
 induction k with
 | zero=>intro lo _;trivial
 | succ k b=>intro lo h;exact⟨⟨CW h.1.1,h.1.2⟩,b h.2⟩
theorem Zt{o:Oper}{lo k:Nat}{f:FuncId}{e:c6}(V:AV)(w:aX P f e (fun v _=>v=V))(p:cF P f=true)(B:V.dg []=true)(d:Nat)(x:o.dst=some d)(q:Nat.ble (d+1) n=true)
  (h:ey lo k fun j=>cH a (nth g j) o=true∧eh (nth g j) o=some (f,e)∧look d (nth g j).t=some V):fv P n i a K g o (.c lo k):=by
 show ey lo k _;revert lo
 induction k with
 | zero=>intro lo _;trivial
 | succ k C =>
  intro lo h;refine⟨⟨CW h.1.1,.inl ?_⟩,C h.2⟩;obtain⟨_,b,u⟩:=h.1;unfold eh at b;unfold Bs;split at b
  ·rename_i c r;split at b
   ·rename_i E m;split at b
    ·rename_i D aO l y z;split at b
     ·rename_i A;injection b with b;injection b with s t;subst s
      simp only[r,m,y,z,x,u];exact⟨j3 q,A,B,p,t ▸ w⟩
     ·cases b
    ·cases b
   ·cases b
  ·cases b
theorem Wy{o:Oper}{lo k} T(d:Nat) cs(m:o.guard.isNone=true)(c:o.op=.alloc T)(e:o.dst=some d)(b:Nat.ble (d+1) (min n 450000)=true)(l:eZ P T=some cs)(f:has i.u d=false)
  (h:ey lo k fun j=>look d (nth g j).o=some cs∧look d (nth g j).r=none∧look d (nth g j).t=some (.ptr d 0)∧has (nth g j).u d=true):fv P n i a K g o (.a lo k):=by
 refine⟨by simp_all,?_⟩;unfold Fr;rw[c];simp only[e,l];exact⟨j3 b,f,h⟩
theorem Bu{p q}(a:∀j,p j→q j):∀{k lo},ey lo k p→ey lo k q
 | 0,_,_=>trivial
 | _+1,_,h=>⟨a _ h.1,Bu a h.2⟩
theorem k_o{o:Oper}{lo k:Nat}{f:FuncId}{e:c6}(V:AV){id:Nat}{ar:co}(d:Nat)(t:Nat.ble (id+1) TG=true)(D:aX P f e (fun v H=>v=V∧look id H.r=some ar))(q:cF P f=true)(p:∀(N:Nat→Prop) w ι x,Rel N w ι V x→∃y,ι id=some y)
  (E:o.dst=some d) (r:Nat.ble (d+1) n=true) (u:has i.u d=false)
  (h:ey lo k fun j=>cH a (nth g j) o=true∧eh (nth g j) o=some (f,e)∧look d (nth g j).t=some (V.fY id d)∧look d (nth g j).r=some ar∧look d (nth g j).o=none∧has (nth g j).u d=true):fv P n i a K g o (.o lo k):=by
 refine⟨d,E,j3 r,u,Bu (fun j z=>⟨CW z.1,?_⟩) h⟩;obtain⟨_,b,C⟩:=z;unfold eh at b;unfold BF;split at b
 ·rename_i c s;split at b
  ·rename_i J m;split at b
   ·rename_i I aO l F G;split at b
    ·rename_i u;injection b with b;injection b with A B;subst A
     simp only[s,m];exact⟨_,aO,l,V,id,ar,j3 t,F,G,u,q,B ▸ D,p,C⟩
    ·cases b
   ·cases b
  ·cases b
 ·cases b
theorem aiY{o:Oper}{lo k:Nat}(m:o.guard.isSome=true)(h:ey lo k fun j=>Ev a (nth g j) o=true)(f:ey 0 (K+1) fun j=>(match o.dst with|some d=>(match look d (nth g j).t with|none=>true|some (.tup [])=>Nat.ble (d+1) n|_=>false)|none=>true)=true):fv P n i a K g o (.off lo k):=by
 refine⟨fun e=>(by grind),Bu (fun j b=>(ahW b).1) h,Bu (fun j b=>?_) f⟩;unfold Iv;cases l:o.dst with
 | none=>grind
 | some d =>
  rw[l]at b;simp only[]at b⊢;split at b
  ·grind
  ·rename_i c;exact .inr ⟨c,j3 b⟩
  grind
theorem d8{s}{o}{s'}(h:cb P n s o=some s')(a:s'=s):cb P n s o=some s:=by grind
theorem Yk{s}{o}(d:Nat){e b}(a:e=b)(h:cb P n s o=some (s.put (some d) (.bool e)))(c:s.put (some d) (.bool b)=s):cb P n s o=some s:=by grind
end
end Go.Proofs.YtocgkfoifehcbaaGreat

/- A region that draws its order, by explicit states and a proof for each operation. No program in sight. -/
import Derived.Test.YtnpmlepplfaijaaDoorInVm
namespace Go.Proofs.YtnpmlepplfaijaaDoor
set_option linter.all false
open Go.RowKit
def lw:List Oper→List Tag→Nat→Bool
 | o::r,t::ts,k=>(t.d9&&(match o.dst with|some d=>Nat.beq d k|none=>false))||lw r ts k
 | _,_,_=>false
theorem zo:∀{l:List Oper} {ts:List Tag} {k:Nat},lw l ts k=true→∃(i:Nat) (o:Oper) (tg:Tag),l[i]?=some o∧ts[i]?=some tg∧tg.d9=true∧o.dst=some k
 | [],_,_,h=>by simp[lw]at h
 | _::_,[],_,h=>by simp[lw]at h
 | o::r,t::ts,k,h=>by
  simp only[lw,Bool.or_eq_true,Bool.and_eq_true]at h;rcases h with⟨h1,h2⟩|h
  ·cases hd:o.dst with
   | none=>rw[hd]at h2;cases h2
   | some d =>
    rw[hd]at h2;have:=Nat.eq_of_beq_eq_true h2;subst this;exact⟨0,o,t,rfl,rfl,h1,hd⟩
  ·obtain⟨i,o',tg,a,b,c,d⟩:=zo h;exact⟨i+1,o',tg,by simpa using a,by simpa using b,c,d⟩
def iX(l:List Oper)(ts:List Tag):List (Nat×AV)→Bool
 | []=>true
 | p::r=>lw l ts p.1&&iX l ts r
theorem zb{l:List Oper}{ts:List Tag}:∀{rv:List (Nat×AV)},iX l ts rv=true→∀p∈rv,∃(i:Nat) (o:Oper) (tg:Tag),l[i]?=some o∧ts[i]?=some tg∧tg.d9=true∧o.dst=some p.1
 | [],_,p,hp=>by cases hp
 | q::r,h,p,hp=>by
  simp only[iX,Bool.and_eq_true]at h;rcases List.mem_cons.1 hp with rfl|hp
  ·exact zo h.1
  ·exact zb h.2 p hp
def eZ{α:Type}(u:List Nat):List (Nat×α)→Bool
 | []=>true
 | (k,_)::r=>!has u k&&eZ u r
theorem sW{α:Type}{u:List Nat}:∀{l:List (Nat×α)},eZ u l=true→fresh u l
 | [],_=>trivial
 | (k,x)::r,h=>by
  simp only[eZ,Bool.and_eq_true,Bool.not_eq_true']at h;exact⟨h.1,sW h.2⟩
theorem CP{P:Program}{n:Nat}{ops:Array Oper}{s0:AS}(tags:List Tag)(K:Nat)(rv:List (Nat×AV))(al:List (Nat×List AV))(rl:List (Nat×bn))(σs:List AS)
  (hkey:iX ops.toList tags rv=true) (hfr:eZ s0.u al=true) (hfr2:eZ s0.u rl=true) (hd0:nth σs 0=iV s0 rv al rl) (h3:dC P n s0 ops K σs ops.toList tags):lV P n s0 ops tags K (nth σs):=by
 have hf:=sW hfr;have hf2:=sW hfr2;have ck:∀(i:Nat) (o:Oper) (t:Tag),ops[i]?=some o→tags[i]?=some t→dP P n s0 ops K σs o t:=fun i o t ho ht=>xn h3 i o t (by simpa using ho) ht;refine⟨fun i o m ho ht=>ck i o _ ho ht,fun i o lo k ho ht j hj1 hj2=>i9 (ck i o _ ho ht) j hj1 hj2,fun i o lo k ho ht j hj1 hj2=>?_,fun i o lo k ho ht=>?_,fun i o lo k ho ht=>?_,fun i o lo k ho ht=>?_,fun id a hi=>?_,fun id a hi=>?_,fun id cs hi=>?_,fun id hi=>?_,fun id cs hi=>?_,fun t v hv=>?_⟩
 ·have:=i9 (ck i o _ ho ht) j hj1 hj2;exact⟨this.1,CZ this.2⟩
 ·have h4:=ck i o _ ho ht;obtain⟨h5,h6⟩:=h4;unfold vP at h6;split at h6
  ·rename_i T hop;split at h6
   ·rename_i d cs hd hz;exact⟨T,d,cs,h5,hop,hd,h6.1,h6.2.1,hz,fun j hj1 hj2=>i9 h6.2.2 j hj1 hj2⟩
   ·cases h6
  ·cases h6
 ·obtain⟨h5,h6,h7⟩:=ck i o _ ho ht;refine⟨fun j hj1 hj2=>⟨i9 h6 j hj1 hj2,h5⟩,fun d j hd hj=>?_⟩;have:=i9 h7 j (Nat.zero_le _) (by omega);unfold sv at this;rw[hd]at this;exact this
 ·obtain⟨d,h5,h6,h7,h8⟩:=ck i o _ ho ht;exact⟨d,h5,h6,h7,fun j hj1 hj2=>i9 h8 j hj1 hj2⟩
 ·rw[hd0]at hi;rcases lS rl s0.r id a hi with⟨p,hp,rfl⟩|h4
  ·exact .inr (vw hf2 p hp)
  ·exact .inl h4
 ·rw[hd0]at hi⊢;show has (rl.map (·.1)++(al.map (·.1)++s0.u)) id=true∨_;have hi':look id (jB rl s0.r)=some a:=hi;rcases lS rl s0.r id a hi' with⟨p,hp,rfl⟩|h4
  ·refine .inl (eT ?_);simp only[List.contains_iff_mem,List.mem_append,List.mem_map];exact .inl ⟨p,hp,rfl⟩
  ·exact .inr h4
 ·rw[hd0]at hi;rcases lS al s0.o id cs hi with⟨p,hp,rfl⟩|h4
  ·exact .inr (vw hf p hp)
  ·exact .inl h4
 ·rw[hd0];show(rl.map (·.1)++(al.map (·.1)++s0.u)).contains id=true;simp only[List.contains_iff_mem,List.mem_append]at hi⊢;exact .inr (.inr hi)
 ·rw[hd0]at hi⊢;show has (rl.map (·.1)++(al.map (·.1)++s0.u)) id=true∨_;have hi':look id (jB al s0.o)=some cs:=hi;rcases lS al s0.o id cs hi' with⟨p,hp,rfl⟩|h4
  ·refine .inl (eT ?_);simp only[List.contains_iff_mem,List.mem_append,List.mem_map];exact .inr (.inl ⟨p,hp,rfl⟩)
  ·exact .inr h4
 ·rw[hd0]at hv;rcases lS rv s0.t t v hv with⟨p,hp,rfl⟩|h4
  ·obtain⟨i,o,tg,g1,g2,g3,g4⟩:=zb hkey p hp;exact .inl ⟨i,o,tg,by simpa using g1,g2,g3,g4⟩
  ·exact .inr h4
theorem E6{cx:Cx}{Q:Exit→Act→World→Prop}{ks:List av}{id:Nat}{c:Code}{ops:Array Oper}{s0 sK:AS}(tags:List Tag)(K:Nat)(rv:List (Nat×AV))(al:List (Nat×List AV))(rl:List (Nat×bn))(σs:List AS)
  (hc:c=.region id ops true) (hm:cx.P.follows .mixedOrders=true) (hs:nx ops tags K=true) (hl:iy tags K=true) (hkey:iX ops.toList tags rv=true) (hfr:eZ s0.u al=true) (hfr2:eZ s0.u rl=true)
  (hd0:nth σs 0=iV s0 rv al rl) (h3:dC cx.P cx.n s0 ops K σs ops.toList tags) (hk:nth σs K=sK) (h:VE cx Q ks .normal sK):VE cx Q (.c c::ks) .normal s0:=by
 subst hc;have st:=Ll hs hl;exact Hk (nth σs) tags K hm st (Hn hs hl) (CP tags K rv al rl σs hkey hfr hfr2 hd0 h3) (hk ▸ h)
theorem JT{cx:Cx}{Q:Exit→Act→World→Prop}{ks:List av}{id:Nat}{c:Code}{ops:Array Oper}{s0:AS}(tags:List Tag)(K:Nat)(rv:List (Nat×AV))(al:List (Nat×List AV))(rl:List (Nat×bn))(tl:List AS)
  (hc:c=.region id ops true) (hm:cx.P.follows .mixedOrders=true) (hs:nx ops tags K=true) (hl:iy tags K=true) (hkey:iX ops.toList tags rv=true) (hfr:eZ s0.u al=true) (hfr2:eZ s0.u rl=true)
  (h3:dC cx.P cx.n s0 ops K (iV s0 rv al rl::tl) ops.toList tags) (h:VE cx Q ks .normal (nth (iV s0 rv al rl::tl) K)):VE cx Q (.c c::ks) .normal s0 :=
 E6 tags K rv al rl (iV s0 rv al rl::tl) hc hm hs hl hkey hfr hfr2 rfl h3 rfl h
section
variable{P:Program}{n:Nat}{s0:AS}{all:Array Oper}{K:Nat}{σs:List AS}
theorem CW{l r:List Oper}{o:Oper}{t:Tag}{ts:List Tag}(hl:l=o::r)(h:dP P n s0 all K σs o t)(h2:dC P n s0 all K σs r ts):dC P n s0 all K σs l (t::ts):=by
 subst hl;exact⟨h,h2⟩
theorem Ks{l:List Oper}(hl:l=[]):dC P n s0 all K σs l []:=by subst hl;trivial
theorem ni{lo:Nat}{p:Nat→Prop}:cL lo 0 p:=trivial
theorem iP{lo k:Nat}{p:Nat→Prop}(h:p lo)(h2:cL (lo+1) k p):cL lo (k+1) p:=⟨h,h2⟩
theorem vK{s:AS}{o:Oper}(h:bP all s o=true):eS all s true o.guard:=by
 unfold bP at h;unfold eS;split at h
 ·rename_i h0;rw[h0]
 ·rename_i j b h0;rw[h0];simp only[];split at h
  ·rename_i v hv;obtain⟨og,d,h1,h2,h3⟩:=gC hv;have h1':all[j]?=some og:=by simpa using h1
   simp only[h1',h2,h3];left;cases v<;>cases b<;>simp at h⊢
  ·cases h
def qt(all:Array Oper)(s:AS)(o:Oper):Bool:=match o.guard with
 | none=>false
 | some (j,b)=>match kY all s j with
  | some v=>(match v,b with|true,false=>true|false,true=>true|_,_=>false)
  | none=>pf all s j
theorem Ec{s:AS}{o:Oper}(h:qt all s o=true):eS all s false o.guard∧o.guard≠none:=by
 unfold qt at h;split at h
 ·cases h
 ·rename_i j b h0;refine⟨?_,by rw[h0];exact fun h=>by cases h⟩;unfold eS;rw[h0];simp only[];split at h
  ·rename_i v hv;obtain⟨og,d,h1,h2,h3⟩:=gC hv;have h1':all[j]?=some og:=by simpa using h1
   simp only[h1',h2,h3];left;cases v<;>cases b<;>simp at h⊢
  ·obtain⟨og,d,h1,h2,h3⟩:=xR h;have h1':all[j]?=some og:=by simpa using h1
   simp only[h1',h2,h3];right;exact⟨trivial,trivial⟩
theorem wX{o:Oper}{m:Nat}(hg:o.guard.isNone=true)(h:bj P n (nth σs m) o=some (nth σs (m+1))):dP P n s0 all K σs o (.s (m+1)):=⟨by simpa using hg,h⟩
theorem j7{o:Oper}{lo k:Nat}(h:cL lo k fun j=>bP all (nth σs j) o=true∧bj P n (nth σs j) o=some (nth σs j)):dP P n s0 all K σs o (.v lo k):=by
 show cL lo k _;revert lo
 induction k with
 | zero=>intro lo _;trivial
 | succ k ih=>intro lo h;exact⟨⟨vK h.1.1,h.1.2⟩,ih h.2⟩
theorem H5{o:Oper}{lo k:Nat}{f:FuncId}{args:List AV}(V:AV)(hc:aS P f args (fun v _=>v=V))(hcl:cc P f=true)(hv:V.ca []=true)(d:Nat)(hd:o.dst=some d)(hdn:Nat.ble (d+1) n=true)
  (h:cL lo k fun j=>bP all (nth σs j) o=true∧dt (nth σs j) o=some (f,args)∧look d (nth σs j).t=some V):dP P n s0 all K σs o (.c lo k):=by
 show cL lo k _;revert lo
 induction k with
 | zero=>intro lo _;trivial
 | succ k ih =>
  intro lo h;refine⟨⟨vK h.1.1,.inl ?_⟩,ih h.2⟩;obtain⟨_,h1,h2⟩:=h.1;unfold dt at h1;unfold oF;split at h1
  ·rename_i c hop;split at h1
   ·rename_i fo hcal;split at h1
    ·rename_i f' aK l hf hl;split at h1
     ·rename_i hu;injection h1 with h1;injection h1 with e1 e2;subst e1
      simp only[hop,hcal,hf,hl,hd,h2];exact⟨Nat.le_of_ble_eq_true hdn,hu,hv,hcl,e2 ▸ hc⟩
     ·cases h1
    ·cases h1
   ·cases h1
  ·cases h1
theorem H8{o:Oper}{lo k:Nat}(T:TypeId)(d:Nat)(cs:List AV)(hg:o.guard.isNone=true)(hop:o.op=.alloc T)(hd:o.dst=some d)(hdn:Nat.ble (d+1) (min n 450000)=true)(hz:dM P T=some cs)(hu:has s0.u d=false)
  (h:cL lo k fun j=>look d (nth σs j).o=some cs∧look d (nth σs j).r=none∧look d (nth σs j).t=some (.ptr d 0)∧has (nth σs j).u d=true):dP P n s0 all K σs o (.a lo k):=by
 refine⟨by simpa using hg,?_⟩;unfold vP;rw[hop];simp only[hd,hz];exact⟨Nat.le_of_ble_eq_true hdn,hu,h⟩
theorem oO{p q:Nat→Prop}(hpq:∀j,p j→q j):∀{k lo:Nat},cL lo k p→cL lo k q
 | 0,_,_=>trivial
 | _+1,_,h=>⟨hpq _ h.1,oO hpq h.2⟩
theorem Kr{o:Oper}{lo k:Nat}{f:FuncId}{args:List AV}(V:AV){id:Nat}{ar:bn}(d:Nat)(htg:Nat.ble (id+1) TG=true)(hc:aS P f args (fun v s1=>v=V∧look id s1.r=some ar))(hcl:cc P f=true)(hone:∀(N:Nat→Prop) w ι x,Rel N w ι V x→∃y,ι id=some y)
  (hd:o.dst=some d) (hdn:Nat.ble (d+1) n=true) (hu:has s0.u d=false)
  (h:cL lo k fun j=>bP all (nth σs j) o=true∧dt (nth σs j) o=some (f,args)∧look d (nth σs j).t=some (V.dN id d)∧look d (nth σs j).r=some ar∧look d (nth σs j).o=none∧has (nth σs j).u d=true):dP P n s0 all K σs o (.o lo k):=by
 refine⟨d,hd,Nat.le_of_ble_eq_true hdn,hu,oO (fun j hj=>⟨vK hj.1,?_⟩) h⟩;obtain⟨_,h1,h2⟩:=hj;unfold dt at h1;unfold rr;split at h1
 ·rename_i c hop;split at h1
  ·rename_i fo hcal;split at h1
   ·rename_i f' aK l hf hl;split at h1
    ·rename_i hu;injection h1 with h1;injection h1 with e1 e2;subst e1
     simp only[hop,hcal];exact⟨_,aK,l,V,id,ar,Nat.le_of_ble_eq_true htg,hf,hl,hu,hcl,e2 ▸ hc,hone,h2⟩
    ·cases h1
   ·cases h1
  ·cases h1
 ·cases h1
theorem IC{o:Oper}{lo k:Nat}(hg:o.guard.isSome=true)(h:cL lo k fun j=>qt all (nth σs j) o=true)(h2:cL 0 (K+1) fun j=>(match o.dst with|some d=>(match look d (nth σs j).t with|none=>true|some (.tup [])=>Nat.ble (d+1) n|_=>false)|none=>true)=true):dP P n s0 all K σs o (.off lo k):=by
 refine⟨fun e=>(by rw[e]at hg;cases hg),oO (fun j hj=>(Ec hj).1) h,oO (fun j hj=>?_) h2⟩;unfold sv;cases hd:o.dst with
 | none=>trivial
 | some d =>
  rw[hd]at hj;simp only[]at hj⊢;split at hj
  ·rename_i h0;exact .inl h0
  ·rename_i h0;exact .inr ⟨h0,Nat.le_of_ble_eq_true hj⟩
  ·cases hj
theorem jL{s:AS}{o:Oper}{s':AS}(h:bj P n s o=some s')(he:s'=s):bj P n s o=some s:=by rw[h,he]
theorem Ir{s:AS}{o:Oper}(d:Nat){e b:Bool}(he:e=b)(h:bj P n s o=some (s.put (some d) (.bool e)))(hp:s.put (some d) (.bool b)=s):bj P n s o=some s:=by rw[h,he,hp]
end
end Go.Proofs.YtnpmlepplfaijaaDoor

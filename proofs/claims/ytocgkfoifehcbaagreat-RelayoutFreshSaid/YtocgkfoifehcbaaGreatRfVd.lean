/- A region that draws its order, by explicit states and a proof for each operation. No program in sight. -/
import Derived.Test.YtocgkfoifehcbaaGreatRfVm
namespace Go.Proofs.YtocgkfoifehcbaaGreat
set_option linter.all false
open Go.RowKit
def pQ:List Oper→List Tag→Nat→Bool
 | o::r,t::ts,k=>(t.ep&&(match o.dst with|some d=>Nat.beq d k|none=>false))||pQ r ts k
 | _,_,_=>false
theorem G1:∀{l:List Oper} {ts:List Tag} {k:Nat},pQ l ts k=true→∃(i:Nat) (o:Oper) (tg:Tag),l[i]?=some o∧ts[i]?=some tg∧tg.ep=true∧o.dst=some k
 | [],_,_,h=>by simp[pQ]at h
 | _::_,[],_,h=>by simp[pQ]at h
 | o::r,t::ts,k,h=>by
  simp only[pQ,Bool.or_eq_true,Bool.and_eq_true]at h;rcases h with⟨h1,h2⟩|h
  ·cases hd:o.dst with
   | none=>rw[hd]at h2;cases h2
   | some d =>
    rw[hd]at h2;have:=Nat.eq_of_beq_eq_true h2;subst this;exact⟨0,o,t,rfl,rfl,h1,hd⟩
  ·obtain⟨i,o',tg,a,b,c,d⟩:=G1 h;exact⟨i+1,o',tg,by simpa using a,by simpa using b,c,d⟩
def iU(l:List Oper)(ts:List Tag):List (Nat×AV)→Bool
 | []=>true
 | p::r=>pQ l ts p.1&&iU l ts r
theorem Bk{l:List Oper}{ts:List Tag}:∀{rv:List (Nat×AV)},iU l ts rv=true→∀p∈rv,∃(i:Nat) (o:Oper) (tg:Tag),l[i]?=some o∧ts[i]?=some tg∧tg.ep=true∧o.dst=some p.1
 | [],_,p,hp=>by cases hp
 | q::r,h,p,hp=>by
  simp only[iU,Bool.and_eq_true]at h;rcases List.mem_cons.1 hp with rfl|hp
  ·exact G1 h.1
  ·exact Bk h.2 p hp
def ft{α:Type}(u:List Nat):List (Nat×α)→Bool
 | []=>true
 | (k,_)::r=>!has u k&&ft u r
theorem AK{α:Type}{u:List Nat}:∀{l:List (Nat×α)},ft u l=true→fresh u l
 | [],_=>trivial
 | (k,x)::r,h=>by
  simp only[ft,Bool.and_eq_true,Bool.not_eq_true']at h;exact⟨h.1,AK h.2⟩
theorem sP{P:Program}{n:Nat}{ops:Array Oper}{s0:AS}(tags:List Tag)(K:Nat)(rv:List (Nat×AV))(al:List (Nat×List AV))(rl:List (Nat×br))(σs:List AS)
  (hkey:iU ops.toList tags rv=true) (hfr:ft s0.u al=true) (hfr2:ft s0.u rl=true) (hd0:nth σs 0=eH s0 rv al rl) (h3:dB P n s0 ops K σs ops.toList tags):iG P n s0 ops tags K (nth σs):=by
 have hf:=AK hfr;have hf2:=AK hfr2;have ck:∀(i:Nat) (o:Oper) (t:Tag),ops[i]?=some o→tags[i]?=some t→dQ P n s0 ops K σs o t:=fun i o t ho ht=>HZ h3 i o t (by simpa using ho) ht;refine⟨fun i o m ho ht=>ck i o _ ho ht,fun i o lo k ho ht j hj1 hj2=>lX (ck i o _ ho ht) j hj1 hj2,fun i o lo k ho ht j hj1 hj2=>?_,fun i o lo k ho ht=>?_,fun i o lo k ho ht=>?_,fun i o lo k ho ht=>?_,fun id a hi=>?_,fun id a hi=>?_,fun id cs hi=>?_,fun id hi=>?_,fun id cs hi=>?_,fun t v hv=>?_⟩
 ·have:=lX (ck i o _ ho ht) j hj1 hj2;exact⟨this.1,Pv this.2⟩
 ·have h4:=ck i o _ ho ht;obtain⟨h5,h6⟩:=h4;unfold y7 at h6;split at h6
  ·rename_i T hop;split at h6
   ·rename_i d cs hd hz;exact⟨T,d,cs,h5,hop,hd,h6.1,h6.2.1,hz,fun j hj1 hj2=>lX h6.2.2 j hj1 hj2⟩
   ·cases h6
  ·cases h6
 ·obtain⟨h5,h6,h7⟩:=ck i o _ ho ht;refine⟨fun j hj1 hj2=>⟨lX h6 j hj1 hj2,h5⟩,fun d j hd hj=>?_⟩;have:=lX h7 j (Nat.zero_le _) (by omega);unfold A1 at this;rw[hd]at this;exact this
 ·obtain⟨d,h5,h6,h7,h8⟩:=ck i o _ ho ht;exact⟨d,h5,h6,h7,fun j hj1 hj2=>lX h8 j hj1 hj2⟩
 ·rw[hd0]at hi;rcases oh rl s0.r id a hi with⟨p,hp,rfl⟩|h4
  ·exact .inr (yu hf2 p hp)
  ·exact .inl h4
 ·rw[hd0]at hi⊢;show has (rl.map (·.1)++(al.map (·.1)++s0.u)) id=true∨_;have hi':look id (eK rl s0.r)=some a:=hi;rcases oh rl s0.r id a hi' with⟨p,hp,rfl⟩|h4
  ·refine .inl (eA ?_);simp only[List.contains_iff_mem,List.mem_append,List.mem_map];exact .inl ⟨p,hp,rfl⟩
  ·exact .inr h4
 ·rw[hd0]at hi;rcases oh al s0.o id cs hi with⟨p,hp,rfl⟩|h4
  ·exact .inr (yu hf p hp)
  ·exact .inl h4
 ·rw[hd0];show(rl.map (·.1)++(al.map (·.1)++s0.u)).contains id=true;simp only[List.contains_iff_mem,List.mem_append]at hi⊢;exact .inr (.inr hi)
 ·rw[hd0]at hi⊢;show has (rl.map (·.1)++(al.map (·.1)++s0.u)) id=true∨_;have hi':look id (eK al s0.o)=some cs:=hi;rcases oh al s0.o id cs hi' with⟨p,hp,rfl⟩|h4
  ·refine .inl (eA ?_);simp only[List.contains_iff_mem,List.mem_append,List.mem_map];exact .inr (.inl ⟨p,hp,rfl⟩)
  ·exact .inr h4
 ·rw[hd0]at hv;rcases oh rv s0.t t v hv with⟨p,hp,rfl⟩|h4
  ·obtain⟨i,o,tg,g1,g2,g3,g4⟩:=Bk hkey p hp;exact .inl ⟨i,o,tg,by simpa using g1,g2,g3,g4⟩
  ·exact .inr h4
theorem Ow{cx:Cx}{Q:Exit→Act→World→Prop}{ks:List aq}{id:Nat}{c:Code}{ops:Array Oper}{s0 sK:AS}(tags:List Tag)(K:Nat)(rv:List (Nat×AV))(al:List (Nat×List AV))(rl:List (Nat×br))(σs:List AS)
  (hc:c=.region id ops true) (hm:cx.P.follows .mixedOrders=true) (hs:sW ops tags K=true) (hl:jE tags K=true) (hkey:iU ops.toList tags rv=true) (hfr:ft s0.u al=true) (hfr2:ft s0.u rl=true)
  (hd0:nth σs 0=eH s0 rv al rl) (h3:dB cx.P cx.n s0 ops K σs ops.toList tags) (hk:nth σs K=sK) (h:VE cx Q ks .normal sK):VE cx Q (.c c::ks) .normal s0:=by
 subst hc;have st:=N2 hs hl;exact T6 (nth σs) tags K hm st (Lo hs hl) (sP tags K rv al rl σs hkey hfr hfr2 hd0 h3) (hk ▸ h)
theorem Qa{cx:Cx}{Q:Exit→Act→World→Prop}{ks:List aq}{id:Nat}{c:Code}{ops:Array Oper}{s0:AS}(tags:List Tag)(K:Nat)(rv:List (Nat×AV))(al:List (Nat×List AV))(rl:List (Nat×br))(tl:List AS)
  (hc:c=.region id ops true) (hm:cx.P.follows .mixedOrders=true) (hs:sW ops tags K=true) (hl:jE tags K=true) (hkey:iU ops.toList tags rv=true) (hfr:ft s0.u al=true) (hfr2:ft s0.u rl=true)
  (h3:dB cx.P cx.n s0 ops K (eH s0 rv al rl::tl) ops.toList tags) (h:VE cx Q ks .normal (nth (eH s0 rv al rl::tl) K)):VE cx Q (.c c::ks) .normal s0 :=
 Ow tags K rv al rl (eH s0 rv al rl::tl) hc hm hs hl hkey hfr hfr2 rfl h3 rfl h
section
variable{P:Program}{n:Nat}{s0:AS}{all:Array Oper}{K:Nat}{σs:List AS}
theorem MI{l r:List Oper}{o:Oper}{t:Tag}{ts:List Tag}(hl:l=o::r)(h:dQ P n s0 all K σs o t)(h2:dB P n s0 all K σs r ts):dB P n s0 all K σs l (t::ts):=by
 subst hl;exact⟨h,h2⟩
theorem Ui{l:List Oper}(hl:l=[]):dB P n s0 all K σs l []:=by subst hl;trivial
theorem fR{lo:Nat}{p:Nat→Prop}:df lo 0 p:=trivial
theorem c9{lo k:Nat}{p:Nat→Prop}(h:p lo)(h2:df (lo+1) k p):df lo (k+1) p:=⟨h,h2⟩
theorem wm{s:AS}{o:Oper}(h:cd all s o=true):fT all s true o.guard:=by
 unfold cd at h;unfold fT;split at h
 ·rename_i h0;rw[h0]
 ·rename_i j b h0;rw[h0];simp only[];split at h
  ·rename_i v hv;obtain⟨og,d,h1,h2,h3⟩:=j6 hv;have h1':all[j]?=some og:=by simpa using h1
   simp only[h1',h2,h3];left;cases v<;>cases b<;>simp at h⊢
  ·cases h
def ut(all:Array Oper)(s:AS)(o:Oper):Bool:=match o.guard with
 | none=>false
 | some (j,b)=>match m4 all s j with
  | some v=>(match v,b with|true,false=>true|false,true=>true|_,_=>false)
  | none=>xa all s j
theorem Mn{s:AS}{o:Oper}(h:ut all s o=true):fT all s false o.guard∧o.guard≠none:=by
 unfold ut at h;split at h
 ·cases h
 ·rename_i j b h0;refine⟨?_,by rw[h0];exact fun h=>by cases h⟩;unfold fT;rw[h0];simp only[];split at h
  ·rename_i v hv;obtain⟨og,d,h1,h2,h3⟩:=j6 hv;have h1':all[j]?=some og:=by simpa using h1
   simp only[h1',h2,h3];left;cases v<;>cases b<;>simp at h⊢
  ·obtain⟨og,d,h1,h2,h3⟩:=GK h;have h1':all[j]?=some og:=by simpa using h1
   simp only[h1',h2,h3];right;exact⟨trivial,trivial⟩
theorem IW{o:Oper}{m:Nat}(hg:o.guard.isNone=true)(h:bE P n (nth σs m) o=some (nth σs (m+1))):dQ P n s0 all K σs o (.s (m+1)):=⟨by simpa using hg,.inl h⟩
theorem fv{o:Oper}{lo k:Nat}(h:df lo k fun j=>cd all (nth σs j) o=true∧bE P n (nth σs j) o=some (nth σs j)):dQ P n s0 all K σs o (.v lo k):=by
 show df lo k _;revert lo
 induction k with
 | zero=>intro lo _;trivial
 | succ k ih=>intro lo h;exact⟨⟨wm h.1.1,h.1.2⟩,ih h.2⟩
theorem Lz{o:Oper}{lo k:Nat}{f:FuncId}{args:List AV}(V:AV)(hc:aS P f args (fun v _=>v=V))(hcl:cf P f=true)(hv:V.cL []=true)(d:Nat)(hd:o.dst=some d)(hdn:Nat.ble (d+1) n=true)
  (h:df lo k fun j=>cd all (nth σs j) o=true∧de (nth σs j) o=some (f,args)∧look d (nth σs j).t=some V):dQ P n s0 all K σs o (.c lo k):=by
 show df lo k _;revert lo
 induction k with
 | zero=>intro lo _;trivial
 | succ k ih =>
  intro lo h;refine⟨⟨wm h.1.1,.inl ?_⟩,ih h.2⟩;obtain⟨_,h1,h2⟩:=h.1;unfold de at h1;unfold wC;split at h1
  ·rename_i c hop;split at h1
   ·rename_i fo hcal;split at h1
    ·rename_i f' aP l hf hl;split at h1
     ·rename_i hu;injection h1 with h1;injection h1 with e1 e2;subst e1
      simp only[hop,hcal,hf,hl,hd,h2];exact⟨Nat.le_of_ble_eq_true hdn,hu,hv,hcl,e2 ▸ hc⟩
     ·cases h1
    ·cases h1
   ·cases h1
  ·cases h1
theorem UZ{o:Oper}{lo k:Nat}(T:TypeId)(d:Nat)(cs:List AV)(hg:o.guard.isNone=true)(hop:o.op=.alloc T)(hd:o.dst=some d)(hdn:Nat.ble (d+1) (min n 450000)=true)(hz:ek P T=some cs)(hu:has s0.u d=false)
  (h:df lo k fun j=>look d (nth σs j).o=some cs∧look d (nth σs j).r=none∧look d (nth σs j).t=some (.ptr d 0)∧has (nth σs j).u d=true):dQ P n s0 all K σs o (.a lo k):=by
 refine⟨by simpa using hg,?_⟩;unfold y7;rw[hop];simp only[hd,hz];exact⟨Nat.le_of_ble_eq_true hdn,hu,h⟩
theorem tM{p q:Nat→Prop}(hpq:∀j,p j→q j):∀{k lo:Nat},df lo k p→df lo k q
 | 0,_,_=>trivial
 | _+1,_,h=>⟨hpq _ h.1,tM hpq h.2⟩
theorem UO{o:Oper}{lo k:Nat}{f:FuncId}{args:List AV}(V:AV){id:Nat}{ar:br}(d:Nat)(htg:Nat.ble (id+1) TG=true)(hc:aS P f args (fun v s1=>v=V∧look id s1.r=some ar))(hcl:cf P f=true)(hone:∀(N:Nat→Prop) w ι x,Rel N w ι V x→∃y,ι id=some y)
  (hd:o.dst=some d) (hdn:Nat.ble (d+1) n=true) (hu:has s0.u d=false)
  (h:df lo k fun j=>cd all (nth σs j) o=true∧de (nth σs j) o=some (f,args)∧look d (nth σs j).t=some (V.ec id d)∧look d (nth σs j).r=some ar∧look d (nth σs j).o=none∧has (nth σs j).u d=true):dQ P n s0 all K σs o (.o lo k):=by
 refine⟨d,hd,Nat.le_of_ble_eq_true hdn,hu,tM (fun j hj=>⟨wm hj.1,?_⟩) h⟩;obtain⟨_,h1,h2⟩:=hj;unfold de at h1;unfold tE;split at h1
 ·rename_i c hop;split at h1
  ·rename_i fo hcal;split at h1
   ·rename_i f' aP l hf hl;split at h1
    ·rename_i hu;injection h1 with h1;injection h1 with e1 e2;subst e1
     simp only[hop,hcal];exact⟨_,aP,l,V,id,ar,Nat.le_of_ble_eq_true htg,hf,hl,hu,hcl,e2 ▸ hc,hone,h2⟩
    ·cases h1
   ·cases h1
  ·cases h1
 ·cases h1
theorem QP{o:Oper}{lo k:Nat}(hg:o.guard.isSome=true)(h:df lo k fun j=>ut all (nth σs j) o=true)(h2:df 0 (K+1) fun j=>(match o.dst with|some d=>(match look d (nth σs j).t with|none=>true|some (.tup [])=>Nat.ble (d+1) n|_=>false)|none=>true)=true):dQ P n s0 all K σs o (.off lo k):=by
 refine⟨fun e=>(by rw[e]at hg;cases hg),tM (fun j hj=>(Mn hj).1) h,tM (fun j hj=>?_) h2⟩;unfold A1;cases hd:o.dst with
 | none=>trivial
 | some d =>
  rw[hd]at hj;simp only[]at hj⊢;split at hj
  ·rename_i h0;exact .inl h0
  ·rename_i h0;exact .inr ⟨h0,Nat.le_of_ble_eq_true hj⟩
  ·cases hj
theorem dd{s:AS}{o:Oper}{s':AS}(h:bE P n s o=some s')(he:s'=s):bE P n s o=some s:=by rw[h,he]
theorem Ti{s:AS}{o:Oper}(d:Nat){e b:Bool}(he:e=b)(h:bE P n s o=some (s.put (some d) (.bool e)))(hp:s.put (some d) (.bool b)=s):bE P n s o=some s:=by rw[h,he,hp]
end
end Go.Proofs.YtocgkfoifehcbaaGreat

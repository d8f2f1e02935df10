/- A region that draws its order, by explicit states and a proof for each operation. No program in sight. -/
import Derived.Test.YtocgkfoifehcbaaGreatRfVm
namespace Go.Proofs.YtocgkfoifehcbaaGreat
set_option linter.all false
open Go.RowKit
def pi:List Oper→List Tag→Nat→Bool
 | o::r,t::ts,k=>(t.ew&&(match o.dst with|some d=>Nat.beq d k|none=>false))||pi r ts k
 | _,_,_=>false
theorem G3:∀{l:List Oper} {ts:List Tag} {k:Nat},pi l ts k=true→∃(i:Nat) (o:Oper) (tg:Tag),l[i]?=some o∧ts[i]?=some tg∧tg.ew=true∧o.dst=some k
 | [],_,_,h=>by simp[pi]at h
 | _::_,[],_,h=>by simp[pi]at h
 | o::r,t::ts,k,h=>by
  simp only[pi,Bool.or_eq_true,Bool.and_eq_true]at h;rcases h with⟨h1,h2⟩|h
  ·cases hd:o.dst with
   | none=>rw[hd]at h2;cases h2
   | some d =>
    rw[hd]at h2;have:=Nat.eq_of_beq_eq_true h2;subst this;exact⟨0,o,t,rfl,rfl,h1,hd⟩
  ·obtain⟨i,o',tg,a,b,c,d⟩:=G3 h;exact⟨i+1,o',tg,by simpa using a,by simpa using b,c,d⟩
def iv(l:List Oper)(ts:List Tag):List (Nat×AV)→Bool
 | []=>true
 | p::r=>pi l ts p.1&&iv l ts r
theorem AZ{l:List Oper}{ts:List Tag}:∀{rv:List (Nat×AV)},iv l ts rv=true→∀p∈rv,∃(i:Nat) (o:Oper) (tg:Tag),l[i]?=some o∧ts[i]?=some tg∧tg.ew=true∧o.dst=some p.1
 | [],_,p,hp=>by cases hp
 | q::r,h,p,hp=>by
  simp only[iv,Bool.and_eq_true]at h;rcases List.mem_cons.1 hp with rfl|hp
  ·exact G3 h.1
  ·exact AZ h.2 p hp
def fq{α:Type}(u:List Nat):List (Nat×α)→Bool
 | []=>true
 | (k,_)::r=>!has u k&&fq u r
theorem zT{α:Type}{u:List Nat}:∀{l:List (Nat×α)},fq u l=true→fresh u l
 | [],_=>trivial
 | (k,x)::r,h=>by
  simp only[fq,Bool.and_eq_true,Bool.not_eq_true']at h;exact⟨h.1,zT h.2⟩
theorem sO{P:Program}{n:Nat}{ops:Array Oper}{s0:AS}(tags:List Tag)(K:Nat)(rv:List (Nat×AV))(al:List (Nat×List AV))(rl:List (Nat×br))(σs:List AS)
  (hkey:iv ops.toList tags rv=true) (hfr:fq s0.u al=true) (hfr2:fq s0.u rl=true) (hd0:nth σs 0=eR s0 rv al rl) (h3:dz P n s0 ops K σs ops.toList tags):iH P n s0 ops tags K (nth σs):=by
 have hf:=zT hfr;have hf2:=zT hfr2;have ck:∀(i:Nat) (o:Oper) (t:Tag),ops[i]?=some o→tags[i]?=some t→dT P n s0 ops K σs o t:=fun i o t ho ht=>Gf h3 i o t (by simpa using ho) ht;refine⟨fun i o m ho ht=>ck i o _ ho ht,fun i o lo k ho ht j hj1 hj2=>mw (ck i o _ ho ht) j hj1 hj2,fun i o lo k ho ht j hj1 hj2=>?_,fun i o lo k ho ht=>?_,fun i o lo k ho ht=>?_,fun i o lo k ho ht=>?_,fun id a hi=>?_,fun id a hi=>?_,fun id cs hi=>?_,fun id hi=>?_,fun id cs hi=>?_,fun t v hv=>?_⟩
 ·have:=mw (ck i o _ ho ht) j hj1 hj2;exact⟨this.1,Rm this.2⟩
 ·have h4:=ck i o _ ho ht;obtain⟨h5,h6⟩:=h4;unfold AA at h6;split at h6
  ·rename_i T hop;split at h6
   ·rename_i d cs hd hz;exact⟨T,d,cs,h5,hop,hd,h6.1,h6.2.1,hz,fun j hj1 hj2=>mw h6.2.2 j hj1 hj2⟩
   ·cases h6
  ·cases h6
 ·obtain⟨h5,h6,h7⟩:=ck i o _ ho ht;refine⟨fun j hj1 hj2=>⟨mw h6 j hj1 hj2,h5⟩,fun d j hd hj=>?_⟩;have:=mw h7 j (Nat.zero_le _) (by omega);unfold zD at this;rw[hd]at this;exact this
 ·obtain⟨d,h5,h6,h7,h8⟩:=ck i o _ ho ht;exact⟨d,h5,h6,h7,fun j hj1 hj2=>mw h8 j hj1 hj2⟩
 ·rw[hd0]at hi;rcases oe rl s0.r id a hi with⟨p,hp,rfl⟩|h4
  ·exact .inr (Ah hf2 p hp)
  ·exact .inl h4
 ·rw[hd0]at hi⊢;show has (rl.map (·.1)++(al.map (·.1)++s0.u)) id=true∨_;have hi':look id (eJ rl s0.r)=some a:=hi;rcases oe rl s0.r id a hi' with⟨p,hp,rfl⟩|h4
  ·refine .inl (eB ?_);simp only[List.contains_iff_mem,List.mem_append,List.mem_map];exact .inl ⟨p,hp,rfl⟩
  ·exact .inr h4
 ·rw[hd0]at hi;rcases oe al s0.o id cs hi with⟨p,hp,rfl⟩|h4
  ·exact .inr (Ah hf p hp)
  ·exact .inl h4
 ·rw[hd0];show(rl.map (·.1)++(al.map (·.1)++s0.u)).contains id=true;simp only[List.contains_iff_mem,List.mem_append]at hi⊢;exact .inr (.inr hi)
 ·rw[hd0]at hi⊢;show has (rl.map (·.1)++(al.map (·.1)++s0.u)) id=true∨_;have hi':look id (eJ al s0.o)=some cs:=hi;rcases oe al s0.o id cs hi' with⟨p,hp,rfl⟩|h4
  ·refine .inl (eB ?_);simp only[List.contains_iff_mem,List.mem_append,List.mem_map];exact .inr (.inl ⟨p,hp,rfl⟩)
  ·exact .inr h4
 ·rw[hd0]at hv;rcases oe rv s0.t t v hv with⟨p,hp,rfl⟩|h4
  ·obtain⟨i,o,tg,g1,g2,g3,g4⟩:=AZ hkey p hp;exact .inl ⟨i,o,tg,by simpa using g1,g2,g3,g4⟩
  ·exact .inr h4
theorem Ml{cx:Cx}{Q:Exit→Act→World→Prop}{ks:List aq}{id:Nat}{c:Code}{ops:Array Oper}{s0 sK:AS}(tags:List Tag)(K:Nat)(rv:List (Nat×AV))(al:List (Nat×List AV))(rl:List (Nat×br))(σs:List AS)
  (hc:c=.region id ops true) (hm:cx.P.follows .mixedOrders=true) (hs:ql ops tags K=true) (hl:jp tags K=true) (hkey:iv ops.toList tags rv=true) (hfr:fq s0.u al=true) (hfr2:fq s0.u rl=true)
  (hd0:nth σs 0=eR s0 rv al rl) (h3:dz cx.P cx.n s0 ops K σs ops.toList tags) (hk:nth σs K=sK) (h:VE cx Q ks .normal sK):VE cx Q (.c c::ks) .normal s0:=by
 subst hc;have st:=Qi hs hl;exact N9 (nth σs) tags K hm st (Wc hs hl) (sO tags K rv al rl σs hkey hfr hfr2 hd0 h3) (hk ▸ h)
theorem St{cx:Cx}{Q:Exit→Act→World→Prop}{ks:List aq}{id:Nat}{c:Code}{ops:Array Oper}{s0:AS}(tags:List Tag)(K:Nat)(rv:List (Nat×AV))(al:List (Nat×List AV))(rl:List (Nat×br))(tl:List AS)
  (hc:c=.region id ops true) (hm:cx.P.follows .mixedOrders=true) (hs:ql ops tags K=true) (hl:jp tags K=true) (hkey:iv ops.toList tags rv=true) (hfr:fq s0.u al=true) (hfr2:fq s0.u rl=true)
  (h3:dz cx.P cx.n s0 ops K (eR s0 rv al rl::tl) ops.toList tags) (h:VE cx Q ks .normal (nth (eR s0 rv al rl::tl) K)):VE cx Q (.c c::ks) .normal s0 :=
 Ml tags K rv al rl (eR s0 rv al rl::tl) hc hm hs hl hkey hfr hfr2 rfl h3 rfl h
section
variable{P:Program}{n:Nat}{s0:AS}{all:Array Oper}{K:Nat}{σs:List AS}
theorem UK{l r:List Oper}{o:Oper}{t:Tag}{ts:List Tag}(hl:l=o::r)(h:dT P n s0 all K σs o t)(h2:dz P n s0 all K σs r ts):dz P n s0 all K σs l (t::ts):=by
 subst hl;exact⟨h,h2⟩
theorem Kt{l:List Oper}(hl:l=[]):dz P n s0 all K σs l []:=by subst hl;trivial
theorem fJ{lo:Nat}{p:Nat→Prop}:de lo 0 p:=trivial
theorem c9{lo k:Nat}{p:Nat→Prop}(h:p lo)(h2:de (lo+1) k p):de lo (k+1) p:=⟨h,h2⟩
theorem wB{s:AS}{o:Oper}(h:cd all s o=true):fL all s true o.guard:=by
 unfold cd at h;unfold fL;split at h
 ·rename_i h0;rw[h0]
 ·rename_i j b h0;rw[h0];simp only[];split at h
  ·rename_i v hv;obtain⟨og,d,h1,h2,h3⟩:=jV hv;have h1':all[j]?=some og:=by simpa using h1
   simp only[h1',h2,h3];left;cases v<;>cases b<;>simp at h⊢
  ·cases h
def wY(all:Array Oper)(s:AS)(o:Oper):Bool:=match o.guard with
 | none=>false
 | some (j,b)=>match nL all s j with
  | some v=>(match v,b with|true,false=>true|false,true=>true|_,_=>false)
  | none=>wU all s j
theorem UB{s:AS}{o:Oper}(h:wY all s o=true):fL all s false o.guard∧o.guard≠none:=by
 unfold wY at h;split at h
 ·cases h
 ·rename_i j b h0;refine⟨?_,by rw[h0];exact fun h=>by cases h⟩;unfold fL;rw[h0];simp only[];split at h
  ·rename_i v hv;obtain⟨og,d,h1,h2,h3⟩:=jV hv;have h1':all[j]?=some og:=by simpa using h1
   simp only[h1',h2,h3];left;cases v<;>cases b<;>simp at h⊢
  ·obtain⟨og,d,h1,h2,h3⟩:=CB h;have h1':all[j]?=some og:=by simpa using h1
   simp only[h1',h2,h3];right;exact⟨trivial,trivial⟩
theorem Fy{o:Oper}{m:Nat}(hg:o.guard.isNone=true)(h:bE P n (nth σs m) o=some (nth σs (m+1))):dT P n s0 all K σs o (.s (m+1)):=⟨by simpa using hg,.inl h⟩
theorem fk{o:Oper}{lo k:Nat}(h:de lo k fun j=>cd all (nth σs j) o=true∧bE P n (nth σs j) o=some (nth σs j)):dT P n s0 all K σs o (.v lo k):=by
 show de lo k _;revert lo
 induction k with
 | zero=>intro lo _;trivial
 | succ k ih=>intro lo h;exact⟨⟨wB h.1.1,h.1.2⟩,ih h.2⟩
theorem OS{o:Oper}{lo k:Nat}{f:FuncId}{args:List AV}(V:AV)(hc:aU P f args (fun v _=>v=V))(hcl:cf P f=true)(hv:V.cL []=true)(d:Nat)(hd:o.dst=some d)(hdn:Nat.ble (d+1) n=true)
  (h:de lo k fun j=>cd all (nth σs j) o=true∧df (nth σs j) o=some (f,args)∧look d (nth σs j).t=some V):dT P n s0 all K σs o (.c lo k):=by
 show de lo k _;revert lo
 induction k with
 | zero=>intro lo _;trivial
 | succ k ih =>
  intro lo h;refine⟨⟨wB h.1.1,.inl ?_⟩,ih h.2⟩;obtain⟨_,h1,h2⟩:=h.1;unfold df at h1;unfold uZ;split at h1
  ·rename_i c hop;split at h1
   ·rename_i fo hcal;split at h1
    ·rename_i f' aP l hf hl;split at h1
     ·rename_i hu;injection h1 with h1;injection h1 with e1 e2;subst e1
      simp only[hop,hcal,hf,hl,hd,h2];exact⟨Nat.le_of_ble_eq_true hdn,hu,hv,hcl,e2 ▸ hc⟩
     ·cases h1
    ·cases h1
   ·cases h1
  ·cases h1
theorem QY{o:Oper}{lo k:Nat}(T:TypeId)(d:Nat)(cs:List AV)(hg:o.guard.isNone=true)(hop:o.op=.alloc T)(hd:o.dst=some d)(hdn:Nat.ble (d+1) (min n 450000)=true)(hz:eg P T=some cs)(hu:has s0.u d=false)
  (h:de lo k fun j=>look d (nth σs j).o=some cs∧look d (nth σs j).r=none∧look d (nth σs j).t=some (.ptr d 0)∧has (nth σs j).u d=true):dT P n s0 all K σs o (.a lo k):=by
 refine⟨by simpa using hg,?_⟩;unfold AA;rw[hop];simp only[hd,hz];exact⟨Nat.le_of_ble_eq_true hdn,hu,h⟩
theorem sd{p q:Nat→Prop}(hpq:∀j,p j→q j):∀{k lo:Nat},de lo k p→de lo k q
 | 0,_,_=>trivial
 | _+1,_,h=>⟨hpq _ h.1,sd hpq h.2⟩
theorem K0{o:Oper}{lo k:Nat}{f:FuncId}{args:List AV}(V:AV){id:Nat}{ar:br}(d:Nat)(htg:Nat.ble (id+1) TG=true)(hc:aU P f args (fun v s1=>v=V∧look id s1.r=some ar))(hcl:cf P f=true)(hone:∀(N:Nat→Prop) w ι x,Rel N w ι V x→∃y,ι id=some y)
  (hd:o.dst=some d) (hdn:Nat.ble (d+1) n=true) (hu:has s0.u d=false)
  (h:de lo k fun j=>cd all (nth σs j) o=true∧df (nth σs j) o=some (f,args)∧look d (nth σs j).t=some (V.eh id d)∧look d (nth σs j).r=some ar∧look d (nth σs j).o=none∧has (nth σs j).u d=true):dT P n s0 all K σs o (.o lo k):=by
 refine⟨d,hd,Nat.le_of_ble_eq_true hdn,hu,sd (fun j hj=>⟨wB hj.1,?_⟩) h⟩;obtain⟨_,h1,h2⟩:=hj;unfold df at h1;unfold qu;split at h1
 ·rename_i c hop;split at h1
  ·rename_i fo hcal;split at h1
   ·rename_i f' aP l hf hl;split at h1
    ·rename_i hu;injection h1 with h1;injection h1 with e1 e2;subst e1
     simp only[hop,hcal];exact⟨_,aP,l,V,id,ar,Nat.le_of_ble_eq_true htg,hf,hl,hu,hcl,e2 ▸ hc,hone,h2⟩
    ·cases h1
   ·cases h1
  ·cases h1
 ·cases h1
theorem Q9{o:Oper}{lo k:Nat}(hg:o.guard.isSome=true)(h:de lo k fun j=>wY all (nth σs j) o=true)(h2:de 0 (K+1) fun j=>(match o.dst with|some d=>(match look d (nth σs j).t with|none=>true|some (.tup [])=>Nat.ble (d+1) n|_=>false)|none=>true)=true):dT P n s0 all K σs o (.off lo k):=by
 refine⟨fun e=>(by rw[e]at hg;cases hg),sd (fun j hj=>(UB hj).1) h,sd (fun j hj=>?_) h2⟩;unfold zD;cases hd:o.dst with
 | none=>trivial
 | some d =>
  rw[hd]at hj;simp only[]at hj⊢;split at hj
  ·rename_i h0;exact .inl h0
  ·rename_i h0;exact .inr ⟨h0,Nat.le_of_ble_eq_true hj⟩
  ·cases hj
theorem dc{s:AS}{o:Oper}{s':AS}(h:bE P n s o=some s')(he:s'=s):bE P n s o=some s:=by rw[h,he]
theorem Tq{s:AS}{o:Oper}(d:Nat){e b:Bool}(he:e=b)(h:bE P n s o=some (s.put (some d) (.bool e)))(hp:s.put (some d) (.bool b)=s):bE P n s o=some s:=by rw[h,he,hp]
end
end Go.Proofs.YtocgkfoifehcbaaGreat

/- A region that draws its order, by explicit states and a proof for each operation. No program in sight. -/
import Derived.Test.YtnpmlepplfaijaaGreatIwVm
namespace Go.Proofs.YtnpmlepplfaijaaGreat
set_option linter.all false
open Go.RowKit
def ra:List Oper→List Tag→Nat→Bool
 | o::r,t::ts,k=>(t.fq&&(match o.dst with|some d=>Nat.beq d k|none=>false))||ra r ts k
 | _,_,_=>false
theorem JD:∀{l:List Oper} {ts:List Tag} {k:Nat},ra l ts k=true→∃(i:Nat) (o:Oper) (tg:Tag),l[i]?=some o∧ts[i]?=some tg∧tg.fq=true∧o.dst=some k
 | [],_,_,h=>by simp[ra]at h
 | _::_,[],_,h=>by simp[ra]at h
 | o::r,t::ts,k,h=>by
  simp only[ra,Bool.or_eq_true,Bool.and_eq_true]at h;rcases h with⟨h1,h2⟩|h
  ·cases hd:o.dst with
   | none=>rw[hd]at h2;cases h2
   | some d =>
    rw[hd]at h2;have:=Nat.eq_of_beq_eq_true h2;subst this;exact⟨0,o,t,rfl,rfl,h1,hd⟩
  ·obtain⟨i,o',tg,a,b,c,d⟩:=JD h;exact⟨i+1,o',tg,by simpa using a,by simpa using b,c,d⟩
def lg(l:List Oper)(ts:List Tag):List (Nat×AV)→Bool
 | []=>true
 | p::r=>ra l ts p.1&&lg l ts r
theorem H4{l:List Oper}{ts:List Tag}:∀{rv:List (Nat×AV)},lg l ts rv=true→∀p∈rv,∃(i:Nat) (o:Oper) (tg:Tag),l[i]?=some o∧ts[i]?=some tg∧tg.fq=true∧o.dst=some p.1
 | [],_,p,hp=>by cases hp
 | q::r,h,p,hp=>by
  simp only[lg,Bool.and_eq_true]at h;rcases List.mem_cons.1 hp with rfl|hp
  ·exact JD h.1
  ·exact H4 h.2 p hp
def fV{α:Type}(u:List Nat):List (Nat×α)→Bool
 | []=>true
 | (k,_)::r=>!has u k&&fV u r
theorem EX{α:Type}{u:List Nat}:∀{l:List (Nat×α)},fV u l=true→fresh u l
 | [],_=>trivial
 | (k,x)::r,h=>by
  simp only[fV,Bool.and_eq_true,Bool.not_eq_true']at h;exact⟨h.1,EX h.2⟩
theorem F9{P:Program}{n:Nat}{ops:Array Oper}{s0:AS}(tags:List Tag)(K:Nat)(rv:List (Nat×AV))(al:List (Nat×List AV))(rl:List (Nat×bo))(σs:List AS)
  (hkey:lg ops.toList tags rv=true) (hfr:fV s0.u al=true) (hfr2:fV s0.u rl=true) (hd0:nth σs 0=nG s0 rv al rl) (h3:d6 P n s0 ops K σs ops.toList tags):ol P n s0 ops tags K (nth σs):=by
 have hf:=EX hfr;have hf2:=EX hfr2;have ck:∀(i:Nat) (o:Oper) (t:Tag),ops[i]?=some o→tags[i]?=some t→eo P n s0 ops K σs o t:=fun i o t ho ht=>MH h3 i o t (by simpa using ho) ht;refine⟨fun i o m ho ht=>ck i o _ ho ht,fun i o lo k ho ht j hj1 hj2=>pO (ck i o _ ho ht) j hj1 hj2,fun i o lo k ho ht j hj1 hj2=>?_,fun i o lo k ho ht=>?_,fun i o lo k ho ht=>?_,fun i o lo k ho ht=>?_,fun id a hi=>?_,fun id a hi=>?_,fun id cs hi=>?_,fun id hi=>?_,fun id cs hi=>?_,fun t v hv=>?_⟩
 ·have:=pO (ck i o _ ho ht) j hj1 hj2;exact⟨this.1,Y3 this.2⟩
 ·have h4:=ck i o _ ho ht;obtain⟨h5,h6⟩:=h4;unfold FQ at h6;split at h6
  ·rename_i T hop;split at h6
   ·rename_i d cs hd hz;exact⟨T,d,cs,h5,hop,hd,h6.1,h6.2.1,hz,fun j hj1 hj2=>pO h6.2.2 j hj1 hj2⟩
   ·cases h6
  ·cases h6
 ·obtain⟨h5,h6,h7⟩:=ck i o _ ho ht;refine⟨fun j hj1 hj2=>⟨pO h6 j hj1 hj2,h5⟩,fun d j hd hj=>?_⟩;have:=pO h7 j (Nat.zero_le _) (by omega);unfold FK at this;rw[hd]at this;exact this
 ·obtain⟨d,h5,h6,h7,h8⟩:=ck i o _ ho ht;exact⟨d,h5,h6,h7,fun j hj1 hj2=>pO h8 j hj1 hj2⟩
 ·rw[hd0]at hi;rcases sq rl s0.r id a hi with⟨p,hp,rfl⟩|h4
  ·exact .inr (En hf2 p hp)
  ·exact .inl h4
 ·rw[hd0]at hi⊢;show has (rl.map (·.1)++(al.map (·.1)++s0.u)) id=true∨_;have hi':look id (po rl s0.r)=some a:=hi;rcases sq rl s0.r id a hi' with⟨p,hp,rfl⟩|h4
  ·refine .inl (fQ ?_);simp only[List.contains_iff_mem,List.mem_append,List.mem_map];exact .inl ⟨p,hp,rfl⟩
  ·exact .inr h4
 ·rw[hd0]at hi;rcases sq al s0.o id cs hi with⟨p,hp,rfl⟩|h4
  ·exact .inr (En hf p hp)
  ·exact .inl h4
 ·rw[hd0];show(rl.map (·.1)++(al.map (·.1)++s0.u)).contains id=true;simp only[List.contains_iff_mem,List.mem_append]at hi⊢;exact .inr (.inr hi)
 ·rw[hd0]at hi⊢;show has (rl.map (·.1)++(al.map (·.1)++s0.u)) id=true∨_;have hi':look id (po al s0.o)=some cs:=hi;rcases sq al s0.o id cs hi' with⟨p,hp,rfl⟩|h4
  ·refine .inl (fQ ?_);simp only[List.contains_iff_mem,List.mem_append,List.mem_map];exact .inr (.inl ⟨p,hp,rfl⟩)
  ·exact .inr h4
 ·rw[hd0]at hv;rcases sq rv s0.t t v hv with⟨p,hp,rfl⟩|h4
  ·obtain⟨i,o,tg,g1,g2,g3,g4⟩:=H4 hkey p hp;exact .inl ⟨i,o,tg,by simpa using g1,g2,g3,g4⟩
  ·exact .inr h4
theorem R2{cx:Cx}{Q:Exit→Act→World→Prop}{ks:List aq}{id:Nat}{c:Code}{ops:Array Oper}{s0 sK:AS}(tags:List Tag)(K:Nat)(rv:List (Nat×AV))(al:List (Nat×List AV))(rl:List (Nat×bo))(σs:List AS)
  (hc:c=.region id ops true) (hm:cx.P.follows .mixedOrders=true) (hs:u0 ops tags K=true) (hl:lf tags K=true) (hkey:lg ops.toList tags rv=true) (hfr:fV s0.u al=true) (hfr2:fV s0.u rl=true)
  (hd0:nth σs 0=nG s0 rv al rl) (h3:d6 cx.P cx.n s0 ops K σs ops.toList tags) (hk:nth σs K=sK) (h:VE cx Q ks .normal sK):VE cx Q (.c c::ks) .normal s0:=by
 subst hc;have st:=ZV hs hl;exact UZ (nth σs) tags K hm st (Us hs hl) (F9 tags K rv al rl σs hkey hfr hfr2 hd0 h3) (hk ▸ h)
theorem abD{cx:Cx}{Q:Exit→Act→World→Prop}{ks:List aq}{id:Nat}{c:Code}{ops:Array Oper}{s0:AS}(tags:List Tag)(K:Nat)(rv:List (Nat×AV))(al:List (Nat×List AV))(rl:List (Nat×bo))(tl:List AS)
  (hc:c=.region id ops true) (hm:cx.P.follows .mixedOrders=true) (hs:u0 ops tags K=true) (hl:lf tags K=true) (hkey:lg ops.toList tags rv=true) (hfr:fV s0.u al=true) (hfr2:fV s0.u rl=true)
  (h3:d6 cx.P cx.n s0 ops K (nG s0 rv al rl::tl) ops.toList tags) (h:VE cx Q ks .normal (nth (nG s0 rv al rl::tl) K)):VE cx Q (.c c::ks) .normal s0 :=
 R2 tags K rv al rl (nG s0 rv al rl::tl) hc hm hs hl hkey hfr hfr2 rfl h3 rfl h
section
variable{P:Program}{n:Nat}{s0:AS}{all:Array Oper}{K:Nat}{σs:List AS}
theorem Pm{l r:List Oper}{o:Oper}{t:Tag}{ts:List Tag}(hl:l=o::r)(h:eo P n s0 all K σs o t)(h2:d6 P n s0 all K σs r ts):d6 P n s0 all K σs l (t::ts):=by
 subst hl;exact⟨h,h2⟩
theorem Zy{l:List Oper}(hl:l=[]):d6 P n s0 all K σs l []:=by subst hl;trivial
theorem jV{lo:Nat}{p:Nat→Prop}:dr lo 0 p:=trivial
theorem eT{lo k:Nat}{p:Nat→Prop}(h:p lo)(h2:dr (lo+1) k p):dr lo (k+1) p:=⟨h,h2⟩
theorem zQ{s:AS}{o:Oper}(h:cw all s o=true):gF all s true o.guard:=by
 unfold cw at h;unfold gF;split at h
 ·rename_i h0;rw[h0]
 ·rename_i j b h0;rw[h0];simp only[];split at h
  ·rename_i v hv;obtain⟨og,d,h1,h2,h3⟩:=l3 hv;have h1':all[j]?=some og:=by simpa using h1
   simp only[h1',h2,h3];left;cases v<;>cases b<;>simp at h⊢
  ·cases h
def yU(all:Array Oper)(s:AS)(o:Oper):Bool:=match o.guard with
 | none=>false
 | some (j,b)=>match rB all s j with
  | some v=>(match v,b with|true,false=>true|false,true=>true|_,_=>false)
  | none=>yn all s j
theorem RU{s:AS}{o:Oper}(h:yU all s o=true):gF all s false o.guard∧o.guard≠none:=by
 unfold yU at h;split at h
 ·cases h
 ·rename_i j b h0;refine⟨?_,by rw[h0];exact fun h=>by cases h⟩;unfold gF;rw[h0];simp only[];split at h
  ·rename_i v hv;obtain⟨og,d,h1,h2,h3⟩:=l3 hv;have h1':all[j]?=some og:=by simpa using h1
   simp only[h1',h2,h3];left;cases v<;>cases b<;>simp at h⊢
  ·obtain⟨og,d,h1,h2,h3⟩:=HK h;have h1':all[j]?=some og:=by simpa using h1
   simp only[h1',h2,h3];right;exact⟨trivial,trivial⟩
theorem I2{o:Oper}{m:Nat}(hg:o.guard.isNone=true)(h:br P n (nth σs m) o=some (nth σs (m+1))):eo P n s0 all K σs o (.s (m+1)):=⟨by simpa using hg,h⟩
theorem jd{o:Oper}{lo k:Nat}(h:dr lo k fun j=>cw all (nth σs j) o=true∧br P n (nth σs j) o=some (nth σs j)):eo P n s0 all K σs o (.v lo k):=by
 show dr lo k _;revert lo
 induction k with
 | zero=>intro lo _;trivial
 | succ k ih=>intro lo h;exact⟨⟨zQ h.1.1,h.1.2⟩,ih h.2⟩
theorem ZC{o:Oper}{lo k:Nat}{f:FuncId}{args:List AV}(V:AV)(hc:aO P f args (fun v _=>v=V))(hcl:cN P f=true)(hv:V.cJ []=true)(d:Nat)(hd:o.dst=some d)(hdn:Nat.ble (d+1) n=true)
  (h:dr lo k fun j=>cw all (nth σs j) o=true∧fv (nth σs j) o=some (f,args)∧look d (nth σs j).t=some V):eo P n s0 all K σs o (.c lo k):=by
 show dr lo k _;revert lo
 induction k with
 | zero=>intro lo _;trivial
 | succ k ih =>
  intro lo h;refine⟨⟨zQ h.1.1,.inl ?_⟩,ih h.2⟩;obtain⟨_,h1,h2⟩:=h.1;unfold fv at h1;unfold xv;split at h1
  ·rename_i c hop;split at h1
   ·rename_i fo hcal;split at h1
    ·rename_i f' bb l hf hl;split at h1
     ·rename_i hu;injection h1 with h1;injection h1 with e1 e2;subst e1
      simp only[hop,hcal,hf,hl,hd,h2];exact⟨Nat.le_of_ble_eq_true hdn,hu,hv,hcl,e2 ▸ hc⟩
     ·cases h1
    ·cases h1
   ·cases h1
  ·cases h1
theorem ZH{o:Oper}{lo k:Nat}(T:TypeId)(d:Nat)(cs:List AV)(hg:o.guard.isNone=true)(hop:o.op=.alloc T)(hd:o.dst=some d)(hdn:Nat.ble (d+1) (min n 450000)=true)(hz:eO P T=some cs)(hu:has s0.u d=false)
  (h:dr lo k fun j=>look d (nth σs j).o=some cs∧look d (nth σs j).r=none∧look d (nth σs j).t=some (.ptr d 0)∧has (nth σs j).u d=true):eo P n s0 all K σs o (.a lo k):=by
 refine⟨by simpa using hg,?_⟩;unfold FQ;rw[hop];simp only[hd,hz];exact⟨Nat.le_of_ble_eq_true hdn,hu,h⟩
theorem zi{p q:Nat→Prop}(hpq:∀j,p j→q j):∀{k lo:Nat},dr lo k p→dr lo k q
 | 0,_,_=>trivial
 | _+1,_,h=>⟨hpq _ h.1,zi hpq h.2⟩
theorem Pt{o:Oper}{lo k:Nat}{f:FuncId}{args:List AV}(V:AV){id:Nat}{ar:bo}(d:Nat)(htg:Nat.ble (id+1) TG=true)(hc:aO P f args (fun v s1=>v=V∧look id s1.r=some ar))(hcl:cN P f=true)(hone:∀(N:Nat→Prop) w ι x,Rel N w ι V x→∃y,ι id=some y)
  (hd:o.dst=some d) (hdn:Nat.ble (d+1) n=true) (hu:has s0.u d=false)
  (h:dr lo k fun j=>cw all (nth σs j) o=true∧fv (nth σs j) o=some (f,args)∧look d (nth σs j).t=some (V.eL id d)∧look d (nth σs j).r=some ar∧look d (nth σs j).o=none∧has (nth σs j).u d=true):eo P n s0 all K σs o (.o lo k):=by
 refine⟨d,hd,Nat.le_of_ble_eq_true hdn,hu,zi (fun j hj=>⟨zQ hj.1,?_⟩) h⟩;obtain⟨_,h1,h2⟩:=hj;unfold fv at h1;unfold zq;split at h1
 ·rename_i c hop;split at h1
  ·rename_i fo hcal;split at h1
   ·rename_i f' bb l hf hl;split at h1
    ·rename_i hu;injection h1 with h1;injection h1 with e1 e2;subst e1
     simp only[hop,hcal];exact⟨_,bb,l,V,id,ar,Nat.le_of_ble_eq_true htg,hf,hl,hu,hcl,e2 ▸ hc,hone,h2⟩
    ·cases h1
   ·cases h1
  ·cases h1
 ·cases h1
theorem Yz{o:Oper}{lo k:Nat}(hg:o.guard.isSome=true)(h:dr lo k fun j=>yU all (nth σs j) o=true)(h2:dr 0 (K+1) fun j=>(match o.dst with|some d=>(match look d (nth σs j).t with|none=>true|some (.tup [])=>Nat.ble (d+1) n|_=>false)|none=>true)=true):eo P n s0 all K σs o (.off lo k):=by
 refine⟨fun e=>(by rw[e]at hg;cases hg),zi (fun j hj=>(RU hj).1) h,zi (fun j hj=>?_) h2⟩;unfold FK;cases hd:o.dst with
 | none=>trivial
 | some d =>
  rw[hd]at hj;simp only[]at hj⊢;split at hj
  ·rename_i h0;exact .inl h0
  ·rename_i h0;exact .inr ⟨h0,Nat.le_of_ble_eq_true hj⟩
  ·cases hj
theorem ft{s:AS}{o:Oper}{s':AS}(h:br P n s o=some s')(he:s'=s):br P n s o=some s:=by rw[h,he]
theorem SV{s:AS}{o:Oper}(d:Nat){e b:Bool}(he:e=b)(h:br P n s o=some (s.put (some d) (.bool e)))(hp:s.put (some d) (.bool b)=s):br P n s o=some s:=by rw[h,he,hp]
end
end Go.Proofs.YtnpmlepplfaijaaGreat

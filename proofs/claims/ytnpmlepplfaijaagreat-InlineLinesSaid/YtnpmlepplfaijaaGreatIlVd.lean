/- A region that draws its order, by explicit states and a proof for each operation. No program in sight. -/
import Derived.Test.YtnpmlepplfaijaaGreatIlVm
namespace Go.Proofs.YtnpmlepplfaijaaGreat
set_option linter.all false
open Go.RowKit
def qk:List Oper→List Tag→Nat→Bool
 | o::r,t::ts,k=>(t.eZ&&(match o.dst with|some d=>Nat.beq d k|none=>false))||qk r ts k
 | _,_,_=>false
theorem HG:∀{l:List Oper} {ts:List Tag} {k:Nat},qk l ts k=true→∃(i:Nat) (o:Oper) (tg:Tag),l[i]?=some o∧ts[i]?=some tg∧tg.eZ=true∧o.dst=some k
 | [],_,_,h=>by simp[qk]at h
 | _::_,[],_,h=>by simp[qk]at h
 | o::r,t::ts,k,h=>by
  simp only[qk,Bool.or_eq_true,Bool.and_eq_true]at h;rcases h with⟨h1,h2⟩|h
  ·cases hd:o.dst with
   | none=>rw[hd]at h2;cases h2
   | some d =>
    rw[hd]at h2;have:=Nat.eq_of_beq_eq_true h2;subst this;exact⟨0,o,t,rfl,rfl,h1,hd⟩
  ·obtain⟨i,o',tg,a,b,c,d⟩:=HG h;exact⟨i+1,o',tg,by simpa using a,by simpa using b,c,d⟩
def kw(l:List Oper)(ts:List Tag):List (Nat×AV)→Bool
 | []=>true
 | p::r=>qk l ts p.1&&kw l ts r
theorem EW{l:List Oper}{ts:List Tag}:∀{rv:List (Nat×AV)},kw l ts rv=true→∀p∈rv,∃(i:Nat) (o:Oper) (tg:Tag),l[i]?=some o∧ts[i]?=some tg∧tg.eZ=true∧o.dst=some p.1
 | [],_,p,hp=>by cases hp
 | q::r,h,p,hp=>by
  simp only[kw,Bool.and_eq_true]at h;rcases List.mem_cons.1 hp with rfl|hp
  ·exact HG h.1
  ·exact EW h.2 p hp
def fI{α:Type}(u:List Nat):List (Nat×α)→Bool
 | []=>true
 | (k,_)::r=>!has u k&&fI u r
theorem Cr{α:Type}{u:List Nat}:∀{l:List (Nat×α)},fI u l=true→fresh u l
 | [],_=>trivial
 | (k,x)::r,h=>by
  simp only[fI,Bool.and_eq_true,Bool.not_eq_true']at h;exact⟨h.1,Cr h.2⟩
theorem A0{P:Program}{n:Nat}{ops:Array Oper}{s0:AS}(tags:List Tag)(K:Nat)(rv:List (Nat×AV))(al:List (Nat×List AV))(rl:List (Nat×bn))(σs:List AS)
  (hkey:kw ops.toList tags rv=true) (hfr:fI s0.u al=true) (hfr2:fI s0.u rl=true) (hd0:nth σs 0=lC s0 rv al rl) (h3:dY P n s0 ops K σs ops.toList tags):ou P n s0 ops tags K (nth σs):=by
 have hf:=Cr hfr;have hf2:=Cr hfr2;have ck:∀(i:Nat) (o:Oper) (t:Tag),ops[i]?=some o→tags[i]?=some t→d5 P n s0 ops K σs o t:=fun i o t ho ht=>Kr h3 i o t (by simpa using ho) ht;refine⟨fun i o m ho ht=>ck i o _ ho ht,fun i o lo k ho ht j hj1 hj2=>oS (ck i o _ ho ht) j hj1 hj2,fun i o lo k ho ht j hj1 hj2=>?_,fun i o lo k ho ht=>?_,fun i o lo k ho ht=>?_,fun i o lo k ho ht=>?_,fun id a hi=>?_,fun id a hi=>?_,fun id cs hi=>?_,fun id hi=>?_,fun id cs hi=>?_,fun t v hv=>?_⟩
 ·have:=oS (ck i o _ ho ht) j hj1 hj2;exact⟨this.1,Vx this.2⟩
 ·have h4:=ck i o _ ho ht;obtain⟨h5,h6⟩:=h4;unfold zC at h6;split at h6
  ·rename_i T hop;split at h6
   ·rename_i d cs hd hz;exact⟨T,d,cs,h5,hop,hd,h6.1,h6.2.1,hz,fun j hj1 hj2=>oS h6.2.2 j hj1 hj2⟩
   ·cases h6
  ·cases h6
 ·obtain⟨h5,h6,h7⟩:=ck i o _ ho ht;refine⟨fun j hj1 hj2=>⟨oS h6 j hj1 hj2,h5⟩,fun d j hd hj=>?_⟩;have:=oS h7 j (Nat.zero_le _) (by omega);unfold z3 at this;rw[hd]at this;exact this
 ·obtain⟨d,h5,h6,h7,h8⟩:=ck i o _ ho ht;exact⟨d,h5,h6,h7,fun j hj1 hj2=>oS h8 j hj1 hj2⟩
 ·rw[hd0]at hi;rcases pT rl s0.r id a hi with⟨p,hp,rfl⟩|h4
  ·exact .inr (AD hf2 p hp)
  ·exact .inl h4
 ·rw[hd0]at hi⊢;show has (rl.map (·.1)++(al.map (·.1)++s0.u)) id=true∨_;have hi':look id (oL rl s0.r)=some a:=hi;rcases pT rl s0.r id a hi' with⟨p,hp,rfl⟩|h4
  ·refine .inl (fk ?_);simp only[List.contains_iff_mem,List.mem_append,List.mem_map];exact .inl ⟨p,hp,rfl⟩
  ·exact .inr h4
 ·rw[hd0]at hi;rcases pT al s0.o id cs hi with⟨p,hp,rfl⟩|h4
  ·exact .inr (AD hf p hp)
  ·exact .inl h4
 ·rw[hd0];show(rl.map (·.1)++(al.map (·.1)++s0.u)).contains id=true;simp only[List.contains_iff_mem,List.mem_append]at hi⊢;exact .inr (.inr hi)
 ·rw[hd0]at hi⊢;show has (rl.map (·.1)++(al.map (·.1)++s0.u)) id=true∨_;have hi':look id (oL al s0.o)=some cs:=hi;rcases pT al s0.o id cs hi' with⟨p,hp,rfl⟩|h4
  ·refine .inl (fk ?_);simp only[List.contains_iff_mem,List.mem_append,List.mem_map];exact .inr (.inl ⟨p,hp,rfl⟩)
  ·exact .inr h4
 ·rw[hd0]at hv;rcases pT rv s0.t t v hv with⟨p,hp,rfl⟩|h4
  ·obtain⟨i,o,tg,g1,g2,g3,g4⟩:=EW hkey p hp;exact .inl ⟨i,o,tg,by simpa using g1,g2,g3,g4⟩
  ·exact .inr h4
theorem Yc{cx:Cx}{Q:Exit→Act→World→Prop}{ks:List ao}{id:Nat}{c:Code}{ops:Array Oper}{s0 sK:AS}(tags:List Tag)(K:Nat)(rv:List (Nat×AV))(al:List (Nat×List AV))(rl:List (Nat×bn))(σs:List AS)
  (hc:c=.region id ops true) (hm:cx.P.follows .mixedOrders=true) (hs:tF ops tags K=true) (hl:li tags K=true) (hkey:kw ops.toList tags rv=true) (hfr:fI s0.u al=true) (hfr2:fI s0.u rl=true)
  (hd0:nth σs 0=lC s0 rv al rl) (h3:dY cx.P cx.n s0 ops K σs ops.toList tags) (hk:nth σs K=sK) (h:VE cx Q ks .normal sK):VE cx Q (.c c::ks) .normal s0:=by
 subst hc;have st:=R2 hs hl;exact UX (nth σs) tags K hm st (Vu hs hl) (A0 tags K rv al rl σs hkey hfr hfr2 hd0 h3) (hk ▸ h)
theorem XT{cx:Cx}{Q:Exit→Act→World→Prop}{ks:List ao}{id:Nat}{c:Code}{ops:Array Oper}{s0:AS}(tags:List Tag)(K:Nat)(rv:List (Nat×AV))(al:List (Nat×List AV))(rl:List (Nat×bn))(tl:List AS)
  (hc:c=.region id ops true) (hm:cx.P.follows .mixedOrders=true) (hs:tF ops tags K=true) (hl:li tags K=true) (hkey:kw ops.toList tags rv=true) (hfr:fI s0.u al=true) (hfr2:fI s0.u rl=true)
  (h3:dY cx.P cx.n s0 ops K (lC s0 rv al rl::tl) ops.toList tags) (h:VE cx Q ks .normal (nth (lC s0 rv al rl::tl) K)):VE cx Q (.c c::ks) .normal s0 :=
 Yc tags K rv al rl (lC s0 rv al rl::tl) hc hm hs hl hkey hfr hfr2 rfl h3 rfl h
section
variable{P:Program}{n:Nat}{s0:AS}{all:Array Oper}{K:Nat}{σs:List AS}
theorem Ru{l r:List Oper}{o:Oper}{t:Tag}{ts:List Tag}(hl:l=o::r)(h:d5 P n s0 all K σs o t)(h2:dY P n s0 all K σs r ts):dY P n s0 all K σs l (t::ts):=by
 subst hl;exact⟨h,h2⟩
theorem XP{l:List Oper}(hl:l=[]):dY P n s0 all K σs l []:=by subst hl;trivial
theorem jN{lo:Nat}{p:Nat→Prop}:dd lo 0 p:=trivial
theorem eH{lo k:Nat}{p:Nat→Prop}(h:p lo)(h2:dd (lo+1) k p):dd lo (k+1) p:=⟨h,h2⟩
theorem wO{s:AS}{o:Oper}(h:cr all s o=true):fW all s true o.guard:=by
 unfold cr at h;unfold fW;split at h
 ·rename_i h0;rw[h0]
 ·rename_i j b h0;rw[h0];simp only[];split at h
  ·rename_i v hv;obtain⟨og,d,h1,h2,h3⟩:=lR hv;have h1':all[j]?=some og:=by simpa using h1
   simp only[h1',h2,h3];left;cases v<;>cases b<;>simp at h⊢
  ·cases h
def wt(all:Array Oper)(s:AS)(o:Oper):Bool:=match o.guard with
 | none=>false
 | some (j,b)=>match qr all s j with
  | some v=>(match v,b with|true,false=>true|false,true=>true|_,_=>false)
  | none=>xw all s j
theorem Vf{s:AS}{o:Oper}(h:wt all s o=true):fW all s false o.guard∧o.guard≠none:=by
 unfold wt at h;split at h
 ·cases h
 ·rename_i j b h0;refine⟨?_,by rw[h0];exact fun h=>by cases h⟩;unfold fW;rw[h0];simp only[];split at h
  ·rename_i v hv;obtain⟨og,d,h1,h2,h3⟩:=lR hv;have h1':all[j]?=some og:=by simpa using h1
   simp only[h1',h2,h3];left;cases v<;>cases b<;>simp at h⊢
  ·obtain⟨og,d,h1,h2,h3⟩:=E6 h;have h1':all[j]?=some og:=by simpa using h1
   simp only[h1',h2,h3];right;exact⟨trivial,trivial⟩
theorem En{o:Oper}{m:Nat}(hg:o.guard.isNone=true)(h:bo P n (nth σs m) o=some (nth σs (m+1))):d5 P n s0 all K σs o (.s (m+1)):=⟨by simpa using hg,h⟩
theorem iE{o:Oper}{lo k:Nat}(h:dd lo k fun j=>cr all (nth σs j) o=true∧bo P n (nth σs j) o=some (nth σs j)):d5 P n s0 all K σs o (.v lo k):=by
 show dd lo k _;revert lo
 induction k with
 | zero=>intro lo _;trivial
 | succ k ih=>intro lo h;exact⟨⟨wO h.1.1,h.1.2⟩,ih h.2⟩
theorem PI{o:Oper}{lo k:Nat}{f:FuncId}{args:List AV}(V:AV)(hc:aN P f args (fun v _=>v=V))(hcl:cF P f=true)(hv:V.cC []=true)(d:Nat)(hd:o.dst=some d)(hdn:Nat.ble (d+1) n=true)
  (h:dd lo k fun j=>cr all (nth σs j) o=true∧eS (nth σs j) o=some (f,args)∧look d (nth σs j).t=some V):d5 P n s0 all K σs o (.c lo k):=by
 show dd lo k _;revert lo
 induction k with
 | zero=>intro lo _;trivial
 | succ k ih =>
  intro lo h;refine⟨⟨wO h.1.1,.inl ?_⟩,ih h.2⟩;obtain⟨_,h1,h2⟩:=h.1;unfold eS at h1;unfold xm;split at h1
  ·rename_i c hop;split at h1
   ·rename_i fo hcal;split at h1
    ·rename_i f' ba l hf hl;split at h1
     ·rename_i hu;injection h1 with h1;injection h1 with e1 e2;subst e1
      simp only[hop,hcal,hf,hl,hd,h2];exact⟨Nat.le_of_ble_eq_true hdn,hu,hv,hcl,e2 ▸ hc⟩
     ·cases h1
    ·cases h1
   ·cases h1
  ·cases h1
theorem Wm{o:Oper}{lo k:Nat}(T:TypeId)(d:Nat)(cs:List AV)(hg:o.guard.isNone=true)(hop:o.op=.alloc T)(hd:o.dst=some d)(hdn:Nat.ble (d+1) (min n 450000)=true)(hz:ec P T=some cs)(hu:has s0.u d=false)
  (h:dd lo k fun j=>look d (nth σs j).o=some cs∧look d (nth σs j).r=none∧look d (nth σs j).t=some (.ptr d 0)∧has (nth σs j).u d=true):d5 P n s0 all K σs o (.a lo k):=by
 refine⟨by simpa using hg,?_⟩;unfold zC;rw[hop];simp only[hd,hz];exact⟨Nat.le_of_ble_eq_true hdn,hu,h⟩
theorem zb{p q:Nat→Prop}(hpq:∀j,p j→q j):∀{k lo:Nat},dd lo k p→dd lo k q
 | 0,_,_=>trivial
 | _+1,_,h=>⟨hpq _ h.1,zb hpq h.2⟩
theorem Vn{o:Oper}{lo k:Nat}{f:FuncId}{args:List AV}(V:AV){id:Nat}{ar:bn}(d:Nat)(htg:Nat.ble (id+1) TG=true)(hc:aN P f args (fun v s1=>v=V∧look id s1.r=some ar))(hcl:cF P f=true)(hone:∀(N:Nat→Prop) w ι x,Rel N w ι V x→∃y,ι id=some y)
  (hd:o.dst=some d) (hdn:Nat.ble (d+1) n=true) (hu:has s0.u d=false)
  (h:dd lo k fun j=>cr all (nth σs j) o=true∧eS (nth σs j) o=some (f,args)∧look d (nth σs j).t=some (V.eo id d)∧look d (nth σs j).r=some ar∧look d (nth σs j).o=none∧has (nth σs j).u d=true):d5 P n s0 all K σs o (.o lo k):=by
 refine⟨d,hd,Nat.le_of_ble_eq_true hdn,hu,zb (fun j hj=>⟨wO hj.1,?_⟩) h⟩;obtain⟨_,h1,h2⟩:=hj;unfold eS at h1;unfold yf;split at h1
 ·rename_i c hop;split at h1
  ·rename_i fo hcal;split at h1
   ·rename_i f' ba l hf hl;split at h1
    ·rename_i hu;injection h1 with h1;injection h1 with e1 e2;subst e1
     simp only[hop,hcal];exact⟨_,ba,l,V,id,ar,Nat.le_of_ble_eq_true htg,hf,hl,hu,hcl,e2 ▸ hc,hone,h2⟩
    ·cases h1
   ·cases h1
  ·cases h1
 ·cases h1
theorem NB{o:Oper}{lo k:Nat}(hg:o.guard.isSome=true)(h:dd lo k fun j=>wt all (nth σs j) o=true)(h2:dd 0 (K+1) fun j=>(match o.dst with|some d=>(match look d (nth σs j).t with|none=>true|some (.tup [])=>Nat.ble (d+1) n|_=>false)|none=>true)=true):d5 P n s0 all K σs o (.off lo k):=by
 refine⟨fun e=>(by rw[e]at hg;cases hg),zb (fun j hj=>(Vf hj).1) h,zb (fun j hj=>?_) h2⟩;unfold z3;cases hd:o.dst with
 | none=>trivial
 | some d =>
  rw[hd]at hj;simp only[]at hj⊢;split at hj
  ·rename_i h0;exact .inl h0
  ·rename_i h0;exact .inr ⟨h0,Nat.le_of_ble_eq_true hj⟩
  ·cases hj
theorem eT{s:AS}{o:Oper}{s':AS}(h:bo P n s o=some s')(he:s'=s):bo P n s o=some s:=by rw[h,he]
theorem TZ{s:AS}{o:Oper}(d:Nat){e b:Bool}(he:e=b)(h:bo P n s o=some (s.put (some d) (.bool e)))(hp:s.put (some d) (.bool b)=s):bo P n s o=some s:=by rw[h,he,hp]
end
end Go.Proofs.YtnpmlepplfaijaaGreat

/- A region that draws its order, by explicit states and a proof for each operation. No program in sight. -/
import Derived.Test.YtolhpahjgddjkaaCcVm
namespace Go.Proofs.Ytolhpahjgddjkaa
set_option linter.all false
open Go.RowKit
def keyIn:List Oper→List Tag→Nat→Bool
  | o::r,t::ts,k=>(t.isR && (match o.dst with | some d=>Nat.beq d k | none=>false)) || keyIn r ts k
  | _,_,_=>false
theorem keyIn_spec:∀ {l:List Oper} {ts:List Tag} {k:Nat},keyIn l ts k=true→∃ (i:Nat) (o:Oper) (tg:Tag),l[i]?=some o∧ts[i]?=some tg∧tg.isR=true∧o.dst=some k
  | [],_,_,h=>by simp [keyIn] at h
  | _::_,[],_,h=>by simp [keyIn] at h
  | o::r,t::ts,k,h=>by
    simp only [keyIn,Bool.or_eq_true,Bool.and_eq_true] at h
    rcases h with ⟨h1,h2⟩ | h
    · cases hd:o.dst with
      | none=>rw [hd] at h2; cases h2
      | some d =>
        rw [hd] at h2
        have:=Nat.eq_of_beq_eq_true h2; subst this
        exact ⟨0,o,t,rfl,rfl,h1,hd⟩
    · obtain ⟨i,o',tg,a,b,c,d⟩:=keyIn_spec h
      exact ⟨i+1,o',tg,by simpa using a,by simpa using b,c,d⟩
def keysOk (l:List Oper) (ts:List Tag):List (Nat×AV)→Bool
  | []=>true
  | p::r=>keyIn l ts p.1 && keysOk l ts r
theorem tv {l:List Oper} {ts:List Tag}:∀ {rv:List (Nat×AV)},keysOk l ts rv=true→∀ p∈rv,∃ (i:Nat) (o:Oper) (tg:Tag),l[i]?=some o∧ts[i]?=some tg∧tg.isR=true∧o.dst=some p.1
  | [],_,p,hp=>by cases hp
  | q::r,h,p,hp=>by
    simp only [keysOk,Bool.and_eq_true] at h
    rcases List.mem_cons.1 hp with rfl | hp
    · exact keyIn_spec h.1
    · exact tv h.2 p hp
def freshB {α:Type} (u:List Nat):List (Nat×α)→Bool
  | []=>true
  | (k,_)::r=>!has u k && freshB u r
theorem si {α:Type} {u:List Nat}:∀ {l:List (Nat×α)},freshB u l=true→fresh u l
  | [],_=>trivial
  | (k,x)::r,h=>by
    simp only [freshB,Bool.and_eq_true,Bool.not_eq_true'] at h
    exact ⟨h.1,si h.2⟩
theorem dyn_of {P:Program} {n:Nat} {ops:Array Oper} {s0:AS} (tags:List Tag) (K:Nat) (rv:List (Nat×AV)) (al:List (Nat×List AV)) (rl:List (Nat×Arr)) (σs:List AS)
    (hkey:keysOk ops.toList tags rv=true) (hfr:freshB s0.u al=true) (hfr2:freshB s0.u rl=true) (hd0:nth σs 0=dstart s0 rv al rl) (h3:dchk P n s0 ops K σs ops.toList tags):Dyn P n s0 ops tags K (nth σs):=by
  have hf:=si hfr
  have hf2:=si hfr2
  have ck:∀ (i:Nat) (o:Oper) (t:Tag),ops[i]?=some o→tags[i]?=some t→chk1 P n s0 ops K σs o t:=fun i o t ho ht=>dchk_spec h3 i o t (by simpa using ho) ht
  refine ⟨fun i o m ho ht=>ck i o _ ho ht,fun i o lo k ho ht j hj1 hj2=>iV (ck i o _ ho ht) j hj1 hj2,fun i o lo k ho ht j hj1 hj2=>?_,fun i o lo k ho ht=>?_,fun i o lo k ho ht=>?_,fun i o lo k ho ht=>?_,fun id a hi=>?_,fun id a hi=>?_,fun id cs hi=>?_,fun id hi=>?_,fun id cs hi=>?_,fun t v hv=>?_⟩
  · have:=iV (ck i o _ ho ht) j hj1 hj2
    exact ⟨this.1,callOk_of this.2⟩
  · have h4:=ck i o _ ho ht
    obtain ⟨h5,h6⟩:=h4
    unfold allocOk at h6
    split at h6
    · rename_i T hop
      split at h6
      · rename_i d cs hd hz
        exact ⟨T,d,cs,h5,hop,hd,h6.1,h6.2.1,hz,fun j hj1 hj2=>iV h6.2.2 j hj1 hj2⟩
      · cases h6
    · cases h6
  · obtain ⟨h5,h6,h7⟩:=ck i o _ ho ht
    refine ⟨fun j hj1 hj2=>⟨iV h6 j hj1 hj2,h5⟩,fun d j hd hj=>?_⟩
    have:=iV h7 j (Nat.zero_le _) (by omega)
    unfold noSlot at this
    rw [hd] at this; exact this
  · obtain ⟨d,h5,h6,h7,h8⟩:=ck i o _ ho ht
    exact ⟨d,h5,h6,h7,fun j hj1 hj2=>iV h8 j hj1 hj2⟩
  · rw [hd0] at hi
    rcases lG rl s0.r id a hi with ⟨p,hp,rfl⟩ | h4
    · exact .inr (rx hf2 p hp)
    · exact .inl h4
  · rw [hd0] at hi ⊢
    show has (rl.map (·.1)++(al.map (·.1)++s0.u)) id=true∨_
    have hi':look id (putAll rl s0.r)=some a:=hi
    rcases lG rl s0.r id a hi' with ⟨p,hp,rfl⟩ | h4
    · refine .inl (dz ?_)
      simp only [List.contains_iff_mem,List.mem_append,List.mem_map]
      exact .inl ⟨p,hp,rfl⟩
    · exact .inr h4
  · rw [hd0] at hi
    rcases lG al s0.o id cs hi with ⟨p,hp,rfl⟩ | h4
    · exact .inr (rx hf p hp)
    · exact .inl h4
  · rw [hd0]
    show (rl.map (·.1)++(al.map (·.1)++s0.u)).contains id=true
    simp only [List.contains_iff_mem,List.mem_append] at hi ⊢
    exact .inr (.inr hi)
  · rw [hd0] at hi ⊢
    show has (rl.map (·.1)++(al.map (·.1)++s0.u)) id=true∨_
    have hi':look id (putAll al s0.o)=some cs:=hi
    rcases lG al s0.o id cs hi' with ⟨p,hp,rfl⟩ | h4
    · refine .inl (dz ?_)
      simp only [List.contains_iff_mem,List.mem_append,List.mem_map]
      exact .inr (.inl ⟨p,hp,rfl⟩)
    · exact .inr h4
  · rw [hd0] at hv
    rcases lG rv s0.t t v hv with ⟨p,hp,rfl⟩ | h4
    · obtain ⟨i,o,tg,g1,g2,g3,g4⟩:=tv hkey p hp
      exact .inl ⟨i,o,tg,by simpa using g1,g2,g3,g4⟩
    · exact .inr h4
theorem ve_draw2 {cx:Cx} {Q:Exit→Act→World→Prop} {ks:List Kont} {id:Nat} {c:Code} {ops:Array Oper} {s0 sK:AS} (tags:List Tag) (K:Nat) (rv:List (Nat×AV)) (al:List (Nat×List AV)) (rl:List (Nat×Arr)) (σs:List AS)
    (hc:c = .region id ops true) (hm:cx.P.follows .mixedOrders=true) (hs:dstat ops tags K=true) (hl:dlast tags K=true) (hkey:keysOk ops.toList tags rv=true) (hfr:freshB s0.u al=true) (hfr2:freshB s0.u rl=true)
    (hd0:nth σs 0=dstart s0 rv al rl) (h3:dchk cx.P cx.n s0 ops K σs ops.toList tags) (hk:nth σs K=sK) (h:VE cx Q ks .normal sK):VE cx Q (.c c::ks) .normal s0:=by
  subst hc
  have st:=stat_of hs hl
  exact ve_draw0 (nth σs) tags K hm st (stat_full hs hl) (dyn_of tags K rv al rl σs hkey hfr hfr2 hd0 h3) (hk ▸ h)
theorem ve_draw3 {cx:Cx} {Q:Exit→Act→World→Prop} {ks:List Kont} {id:Nat} {c:Code} {ops:Array Oper} {s0:AS} (tags:List Tag) (K:Nat) (rv:List (Nat×AV)) (al:List (Nat×List AV)) (rl:List (Nat×Arr)) (tl:List AS)
    (hc:c = .region id ops true) (hm:cx.P.follows .mixedOrders=true) (hs:dstat ops tags K=true) (hl:dlast tags K=true) (hkey:keysOk ops.toList tags rv=true) (hfr:freshB s0.u al=true) (hfr2:freshB s0.u rl=true)
    (h3:dchk cx.P cx.n s0 ops K (dstart s0 rv al rl::tl) ops.toList tags) (h:VE cx Q ks .normal (nth (dstart s0 rv al rl::tl) K)):VE cx Q (.c c::ks) .normal s0 :=
  ve_draw2 tags K rv al rl (dstart s0 rv al rl::tl) hc hm hs hl hkey hfr hfr2 rfl h3 rfl h
section
variable {P:Program} {n:Nat} {s0:AS} {all:Array Oper} {K:Nat} {σs:List AS}
theorem d_cons {l r:List Oper} {o:Oper} {t:Tag} {ts:List Tag} (hl:l=o::r) (h:chk1 P n s0 all K σs o t) (h2:dchk P n s0 all K σs r ts):dchk P n s0 all K σs l (t::ts):=by
  subst hl; exact ⟨h,h2⟩
theorem d_nil {l:List Oper} (hl:l=[]):dchk P n s0 all K σs l []:=by subst hl; trivial
theorem dd {lo:Nat} {p:Nat→Prop}:kall lo 0 p:=trivial
theorem bW {lo k:Nat} {p:Nat→Prop} (h:p lo) (h2:kall (lo+1) k p):kall lo (k+1) p:=⟨h,h2⟩
theorem lS {s:AS} {o:Oper} (h:gon all s o=true):guardIs all s true o.guard:=by
  unfold gon at h
  unfold guardIs
  split at h
  · rename_i h0; rw [h0]
  · rename_i j b h0
    rw [h0]
    simp only []
    split at h
    · rename_i v hv
      obtain ⟨og,d,h1,h2,h3⟩:=hJ hv
      have h1':all[j]?=some og:=by simpa using h1
      simp only [h1',h2,h3]
      left
      cases v<;>cases b<;>simp at h ⊢
    · cases h
def goff (all:Array Oper) (s:AS) (o:Oper):Bool:=match o.guard with
  | none=>false
  | some (j,b)=>match gval all s j with
    | some v=>(match v,b with | true,false=>true | false,true=>true | _,_=>false)
    | none=>gund all s j
theorem goff_is {s:AS} {o:Oper} (h:goff all s o=true):guardIs all s false o.guard∧o.guard≠none:=by
  unfold goff at h
  split at h
  · cases h
  · rename_i j b h0
    refine ⟨?_,by rw [h0]; exact fun h=>by cases h⟩
    unfold guardIs
    rw [h0]
    simp only []
    split at h
    · rename_i v hv
      obtain ⟨og,d,h1,h2,h3⟩:=hJ hv
      have h1':all[j]?=some og:=by simpa using h1
      simp only [h1',h2,h3]
      left
      cases v<;>cases b<;>simp at h ⊢
    · obtain ⟨og,d,h1,h2,h3⟩:=gund_spec h
      have h1':all[j]?=some og:=by simpa using h1
      simp only [h1',h2,h3]
      right; exact ⟨trivial,trivial⟩
theorem k_s {o:Oper} {m:Nat} (hg:o.guard.isNone=true) (h:aop P n (nth σs m) o=some (nth σs (m+1))):chk1 P n s0 all K σs o (.s (m+1)):=⟨by simpa using hg,h⟩
theorem k_v {o:Oper} {lo k:Nat} (h:kall lo k fun j=>gon all (nth σs j) o=true∧aop P n (nth σs j) o=some (nth σs j)):chk1 P n s0 all K σs o (.v lo k):=by
  show kall lo k _
  revert lo
  induction k with
  | zero=>intro lo _; trivial
  | succ k ih=>intro lo h; exact ⟨⟨lS h.1.1,h.1.2⟩,ih h.2⟩
theorem k_c {o:Oper} {lo k:Nat} {f:FuncId} {args:List AV} (V:AV) (hc:ACalls P f args (fun v _=>v=V)) (hcl:callable P f=true) (hv:V.inU []=true) (d:Nat) (hd:o.dst=some d) (hdn:Nat.ble (d+1) n=true)
    (h:kall lo k fun j=>gon all (nth σs j) o=true∧callArgs (nth σs j) o=some (f,args)∧look d (nth σs j).t=some V):chk1 P n s0 all K σs o (.c lo k):=by
  show kall lo k _
  revert lo
  induction k with
  | zero=>intro lo _; trivial
  | succ k ih =>
    intro lo h
    refine ⟨⟨lS h.1.1,.inl ?_⟩,ih h.2⟩
    obtain ⟨_,h1,h2⟩:=h.1
    unfold callArgs at h1
    unfold callOkB
    split at h1
    · rename_i c hop
      split at h1
      · rename_i fo hcal
        split at h1
        · rename_i f' caps l hf hl
          split at h1
          · rename_i hu
            injection h1 with h1; injection h1 with e1 e2; subst e1
            simp only [hop,hcal,hf,hl,hd,h2]
            exact ⟨Nat.le_of_ble_eq_true hdn,hu,hv,hcl,e2 ▸ hc⟩
          · cases h1
        · cases h1
      · cases h1
    · cases h1
theorem k_a {o:Oper} {lo k:Nat} (T:TypeId) (d:Nat) (cs:List AV) (hg:o.guard.isNone=true) (hop:o.op = .alloc T) (hd:o.dst=some d) (hdn:Nat.ble (d+1) n=true) (hz:tzero P T=some cs) (hu:has s0.u d=false)
    (h:kall lo k fun j=>look d (nth σs j).o=some cs∧look d (nth σs j).r=none∧look d (nth σs j).t=some (.ptr d 0)∧has (nth σs j).u d=true):chk1 P n s0 all K σs o (.a lo k):=by
  refine ⟨by simpa using hg,?_⟩
  unfold allocOk
  rw [hop]; simp only [hd,hz]
  exact ⟨Nat.le_of_ble_eq_true hdn,hu,h⟩
theorem ns {p q:Nat→Prop} (hpq:∀ j,p j→q j):∀ {k lo:Nat},kall lo k p→kall lo k q
  | 0,_,_=>trivial
  | _+1,_,h=>⟨hpq _ h.1,ns hpq h.2⟩
theorem k_o {o:Oper} {lo k:Nat} {f:FuncId} {args:List AV} (V:AV) {id:Nat} {ar:Arr} (d:Nat) (htg:Nat.ble (id+1) TG=true) (hc:ACalls P f args (fun v s1=>v=V∧look id s1.r=some ar)) (hcl:callable P f=true) (hone:∀ (N:Nat→Prop) w ι x,Rel N w ι V x→∃ y,ι id=some y)
    (hd:o.dst=some d) (hdn:Nat.ble (d+1) n=true) (hu:has s0.u d=false)
    (h:kall lo k fun j=>gon all (nth σs j) o=true∧callArgs (nth σs j) o=some (f,args)∧look d (nth σs j).t=some (V.ren id d)∧look d (nth σs j).r=some ar∧look d (nth σs j).o=none∧has (nth σs j).u d=true):chk1 P n s0 all K σs o (.o lo k):=by
  refine ⟨d,hd,Nat.le_of_ble_eq_true hdn,hu,ns (fun j hj=>⟨lS hj.1,?_⟩) h⟩
  obtain ⟨_,h1,h2⟩:=hj
  unfold callArgs at h1
  unfold callOkO
  split at h1
  · rename_i c hop
    split at h1
    · rename_i fo hcal
      split at h1
      · rename_i f' caps l hf hl
        split at h1
        · rename_i hu
          injection h1 with h1; injection h1 with e1 e2; subst e1
          simp only [hop,hcal]
          exact ⟨_,caps,l,V,id,ar,Nat.le_of_ble_eq_true htg,hf,hl,hu,hcl,e2 ▸ hc,hone,h2⟩
        · cases h1
      · cases h1
    · cases h1
  · cases h1
theorem k_off {o:Oper} {lo k:Nat} (hg:o.guard.isSome=true) (h:kall lo k fun j=>goff all (nth σs j) o=true) (h2:kall 0 (K+1) fun j=>(match o.dst with | some d=>(match look d (nth σs j).t with | none=>true | some (.tup [])=>Nat.ble (d+1) n | _=>false) | none=>true)=true):chk1 P n s0 all K σs o (.off lo k):=by
  refine ⟨fun e=>(by rw [e] at hg; cases hg),ns (fun j hj=>(goff_is hj).1) h,ns (fun j hj=>?_) h2⟩
  unfold noSlot
  cases hd:o.dst with
  | none=>trivial
  | some d =>
    rw [hd] at hj
    simp only [] at hj ⊢
    split at hj
    · rename_i h0; exact .inl h0
    · rename_i h0; exact .inr ⟨h0,Nat.le_of_ble_eq_true hj⟩
    · cases hj
theorem cc {s:AS} {o:Oper} {s':AS} (h:aop P n s o=some s') (he:s'=s):aop P n s o=some s:=by rw [h,he]
theorem aop_boolc {s:AS} {o:Oper} (d:Nat) {e b:Bool} (he:e=b) (h:aop P n s o=some (s.put (some d) (.bool e))) (hp:s.put (some d) (.bool b)=s):aop P n s o=some s:=by rw [h,he,hp]
end
end Go.Proofs.Ytolhpahjgddjkaa

/- Slices of structs whose one slice field is the cell's own: short rules. No program in sight. -/
import Derived.Test.YtolhpahjgddjkaaCcVn
import Derived.Test.YtolhpahjgddjkaaCcVdf
namespace Go.Proofs.Ytolhpahjgddjkaa
set_option linter.all false
open Go.RowKit
section
variable {P:Program} {n:Nat} {s:AS} {o:Oper} {α β:Type} [Inhabited α]
theorem y_apr (d id:Nat) (et:TypeId) (sz:Nat) {l new:List (List AV)} {bytes:Nat} (hz:new.all (fun e=>e.length == sz)=true) (hf:fits (l.length+new.length) bytes=true) (h:apprI P n s o=some (d,id,et,sz,bytes,new,l)) :
    aop P n s o=some (appS d id ⟨et,sz,l++new⟩ s):=by
  unfold apprI at h
  split at h
  case h_2=>cases h
  rename_i d' x y T T' hd hop
  split at h
  case h_2=>cases h
  rename_i hb h1 h2 h3
  simp only [Bool.and_eq_true] at hb
  have hT:=Nat.eq_of_beq_eq_true hb.1
  split at h
  case h_2=>cases h
  rename_i et' sz' l' h5
  split at h
  case h_2=>cases h
  rename_i h6
  simp only [Bool.and_eq_true,Bool.not_eq_true'] at h6
  have h7:=Nat.eq_of_beq_eq_true h6.1.1
  have h8:=Nat.eq_of_beq_eq_true h6.1.2
  have h9:=h6.2
  simp only [Option.some.injEq,Prod.mk.injEq] at h
  obtain ⟨rfl,rfl,rfl,rfl,rfl,rfl,rfl⟩:=h
  have hT':T=T':=hT
  subst hT'
  subst h7; subst h8
  exact aop_app_raw T x y _ hop hd hb.2 h1 h2 h5 h3 hz hf h9
theorem y_apN (d id:Nat) (et:TypeId) (sz q:Nat) (ek:TypeId) (sk:Nat) (enc exp:α→List AV) (encK:β→List AV) {L:List (α×Option (List β))} (x0:α) (c:AV) {bytes:Nat} (he:∀ a,enc a=exp a) (hz:∀ a,(enc a).length=sz) (hf:fits (L.length+1) bytes=true)
    (h:apprI P n s o=some (d,id,et,sz,bytes,[(exp x0).set q c],L.map (encN enc q ek sk encK)):=by kernel_rfl) :
    aop P n s o=some (appS d id ⟨et,sz,L.map (encN enc q ek sk encK)++[(exp x0).set q c]⟩ s) :=
  y_apr d id et sz (by simp [←he,hz]) (by simpa using hf) h
theorem gf (id sz j q:Nat) (enc:α→List AV) (c:AV) {L:List α} {i:Int} (hb:inb i L.length=true) (h:ixrI P n s o=some (id,sz,i,setc (L.map enc) j q c):=by kernel_rfl):aop P n s o=some (s.put o.dst (.eptr id sz i.toNat 0)):=by
  unfold ixrI at h
  split at h
  case h_2=>cases h
  rename_i T x y hd hop
  obtain ⟨d,hd,hn⟩:=ge hd
  split at h
  case h_2=>cases h
  rename_i h1 h2 h3 h4
  split at h
  case h_2=>cases h
  rename_i h5
  split at h
  case h_2=>cases h
  rename_i h6
  have h6:=Nat.eq_of_beq_eq_true h6
  simp only [Option.some.injEq,Prod.mk.injEq] at h
  obtain ⟨rfl,rfl,rfl,rfl⟩:=h
  subst h6
  rw [hd]
  exact aop_ix_raw _ T x y d hop hd hn h1 h2 h5 h3 h4 (by simpa [mQ] using hb)
def ldgI (n:Nat) (s:AS) (o:Oper):Option (TypeId×Nat×Nat×Nat×Nat×List (List AV)):=match dOk n o,o.op with
  | true,.load T x=>match s.ev x with
    | some (.eptr id sz j off)=>match look id s.r with
      | some ⟨_,sz',l⟩=>match Nat.beq sz sz' && Nat.ble TG id with
        | true=>some (T,id,sz,j,off,l)
        | false=>none
      | none=>none
    | _=>none
  | _,_=>none
theorem y_ldg (T:TypeId) {id sz j off:Nat} {l:List (List AV)} {e:List AV} {v:AV} (h:ldgI n s o=some (T,id,sz,j,off,l)) (hj:l[j]?=some e) (hv:ald P T ((e.drop off).map AV.vis)=some v):aop P n s o=some (s.put o.dst v):=by
  unfold ldgI at h
  split at h
  case h_2=>cases h
  rename_i T' x hd hop
  obtain ⟨d,hd,hn⟩:=ge hd
  split at h
  case h_2=>cases h
  rename_i h1
  split at h
  case h_2=>cases h
  rename_i et sz' l' h5
  split at h
  case h_2=>cases h
  rename_i h6
  rw [Bool.and_eq_true] at h6
  have htg:=Nat.le_of_ble_eq_true h6.2
  have h6:=Nat.eq_of_beq_eq_true h6.1
  simp only [Option.some.injEq,Prod.mk.injEq] at h
  obtain ⟨rfl,rfl,rfl,rfl,rfl,rfl⟩:=h
  subst h6
  rw [hd]
  exact aop_ld_raw T' x d hop hd hn h1 h5 hj htg hv
theorem na (enc:α→List AV) (q:Nat) (ek:TypeId) (sk:Nat) (encK:β→List AV) {L:List (α×Option (List β))} {j:Nat} (hj:j<L.length) (c:AV):(setc (L.map (encN enc q ek sk encK)) j q c)[j]?=some ((enc (L.getD j default).1).set q c):=by
  rw [setc_at (rh enc q ek sk encK hj)]
  unfold encN; rw [List.set_set]
theorem y_ldN (T:TypeId) (id sz off q:Nat) (ek:TypeId) (sk:Nat) (enc exp:α→List AV) (encK:β→List AV) {L:List (α×Option (List β))} {j:Nat} (hj:j<L.length) (he:∀ a,enc a=exp a) (h:ldgI n s o=some (T,id,sz,j,off,L.map (encN enc q ek sk encK)):=by kernel_rfl)
    (hv:valB (ald P T ((((exp (L.getD j default).1).set q .any).drop off).map AV.vis))=true:=by kernel_rfl):aop P n s o=some (s.put o.dst (valD (ald P T ((((exp (L.getD j default).1).set q .any).drop off).map AV.vis)))):=by
  cases hq:ald P T ((((exp (L.getD j default).1).set q .any).drop off).map AV.vis) with
  | none=>rw [hq] at hv; cases hv
  | some v=>exact y_ldg T h (rh enc q ek sk encK hj) (by rw [encN_vis,he]; exact hq)
theorem y_ldV (T:TypeId) (id sz q:Nat) (ek:TypeId) (sk:Nat) (enc exp:α→List AV) (encK:β→List AV) (x:Value) {L:List (α×Option (List β))} {j:Nat} (hj:j<L.length) (he:∀ a,enc a=exp a) (h:ldgI n s o=some (T,id,sz,j,q,setc (L.map (encN enc q ek sk encK)) j q (.vv x)):=by kernel_rfl)
    (hv:ald P T ((((exp (L.getD j default).1).set q (.vv x)).drop q).map AV.vis)=some (.vv x):=by kernel_rfl):aop P n s o=some (s.put o.dst (.vv x)) :=
  y_ldg T h (na enc q ek sk encK hj (.vv x)) (by rw [he]; exact hv)
theorem y_ldX (T:TypeId) (id sz off q:Nat) (ek:TypeId) (sk:Nat) (enc exp:α→List AV) (encK:β→List AV) (x:Value) (v:AV) {L:List (α×Option (List β))} {j:Nat} (hj:j<L.length) (he:∀ a,enc a=exp a) (h:ldgI n s o=some (T,id,sz,j,off,setc (L.map (encN enc q ek sk encK)) j q (.vv x)):=by kernel_rfl)
    (hv:ald P T ((((exp (L.getD j default).1).set q (.vv x)).drop off).map AV.vis)=some v:=by kernel_rfl):aop P n s o=some (s.put o.dst v) :=
  y_ldg T h (na enc q ek sk encK hj (.vv x)) (by rw [he]; exact hv)
theorem y_stN (id:Nat) (et:TypeId) (sz off q:Nat) (ek:TypeId) (sk:Nat) (enc exp:α→List AV) (encK:β→List AV) {L:List (α×Option (List β))} {j:Nat} (new:α) (hj:j<L.length) (he:∀ a,enc a=exp a) (h:strI P s o=some (id,et,sz,j,off,L.map (encN enc q ek sk encK)):=by kernel_rfl)
    (hl:((Nat.ble (off+(strN s o).length) (exp (L.getD j default).1).length && inUs [] (strN s o)) && (Nat.ble (q+1) off || Nat.ble (off+(strN s o).length) q))=true:=by kernel_rfl) (hs:splice off (strN s o) (exp (L.getD j default).1)=exp new:=by kernel_rfl) :
    aop P n s o=some (strS id ⟨et,sz,(L.set j (new,(L.getD j default).2)).map (encN enc q ek sk encK)⟩ s):=by
  unfold strI at h
  split at h
  case h_2=>cases h
  rename_i T x y hd hop
  split at h
  case h_2=>cases h
  rename_i v h1 h2
  split at h
  case h_2=>cases h
  rename_i nv k h5 hv hz
  split at h
  case h_2=>cases h
  rename_i h6
  simp only [Bool.and_eq_true] at h6
  have h7:=Nat.eq_of_beq_eq_true h6.1
  have h8:=Nat.eq_of_beq_eq_true h6.2
  simp only [Option.some.injEq,Prod.mk.injEq] at h
  obtain ⟨rfl,rfl,rfl,rfl,rfl,rfl⟩:=h
  subst h7; subst h8
  have hN:strN s o=nv:=by unfold strN; simp only [hop,h2,hv]
  rw [hN] at hl hs
  rw [Bool.and_eq_true,Bool.and_eq_true] at hl
  exact aop_st_N enc exp q ek sk encK L new T x y hop hd h1 h2 h5 hj hv hz he hl.1.1 hl.1.2 hl.2 hs
theorem y_stV (id:Nat) (et:TypeId) (sz q:Nat) (ek:TypeId) (sk:Nat) (enc:α→List AV) (encK:β→List AV) (c:AV) (x:Value) {L:List (α×Option (List β))} {j:Nat} (hj:j<L.length) (hz:∀ a,(enc a).length=sz) (h:strI P s o=some (id,et,sz,j,q,setc (L.map (encN enc q ek sk encK)) j q c):=by kernel_rfl)
    (hn:strN s o=[.vv x]:=by kernel_rfl) (hq:Nat.ble (q+1) sz=true:=by kernel_rfl) :
    aop P n s o=some (strS id ⟨et,sz,setc (L.map (encN enc q ek sk encK)) j q (.vv x)⟩ s):=by
  unfold strI at h
  split at h
  case h_2=>cases h
  rename_i T x' y hd hop
  split at h
  case h_2=>cases h
  rename_i v h1 h2
  split at h
  case h_2=>cases h
  rename_i nv k h5 hv hz2
  split at h
  case h_2=>cases h
  rename_i h6
  simp only [Bool.and_eq_true] at h6
  have h7:=Nat.eq_of_beq_eq_true h6.1
  have h8:=Nat.eq_of_beq_eq_true h6.2
  simp only [Option.some.injEq,Prod.mk.injEq] at h
  obtain ⟨e1,e2,e3,e4,e5,e6⟩:=h
  subst h7; subst h8
  rw [e1] at h1 h5
  rw [e4,e5] at h1
  rw [e2,e6] at h5
  clear e1 e2 e4 e5 e6
  subst e3
  have hN:strN s o=nv:=by unfold strN; simp only [hop,h2,hv]
  rw [hN] at hn
  subst hn
  have hq':=Nat.le_of_ble_eq_true hq
  have hat:=na enc q ek sk encK hj c
  rw [aop_st_raw T x' y hop hd h1 h2 h5 hat hv hz2 (by rw [List.length_set,hz]; simpa using hq') rfl,splice_setc hat (by rw [List.length_set,hz]; omega),setc_setc]
  rfl
end
section
variable {cx:Cx} {Q:Exit→Act→World→Prop} {ks:List Kont} {s:AS} {f:Func} {p:List Nat} {all:Array Oper} {i:Nat} {α β:Type} [Inhabited α]
def markS (s:AS):AS:={ s with u:=NILMARK::s.u }
theorem Sim.mark {A:Act} {w:World} {ι:Env} (h:Sim cx s A w ι):Sim cx (markS s) A w ι :=
  ⟨⟨h.hs.below,h.hs.old,fun k y hk=>cT (h.hs.use k y hk),h.hs.own,h.hs.inj,fun k c hk=>cT (h.hs.ko k c hk),fun k c hk=>cT (h.hs.kr k c hk),h.hs.objs,h.hs.arrs,fun k v hv=>⟨(h.hs.pin k v hv).1,by
    have:=(h.hs.pin k v hv).2
    simp only [markS,List.contains_cons,Bool.or_eq_true]
    exact .inr this⟩⟩,h.dfr,h.n,h.tmp⟩
theorem ve_mark {ex:Exit} (k:VE cx Q ks ex (markS s)):VE cx Q ks ex s:=fun A w ι hs=>k A w ι hs.mark
def aliveB (s:AS) (id k q:Nat):Bool:=match look k s.t with
  | some (.ref i)=>Nat.beq i id
  | some (.ptr o _)=>match look o s.o with
    | some cs=>match cs[q]? with
      | some (.ref i)=>Nat.beq i id
      | _=>false
    | none=>false
  | some (.agg cs)=>match cs[q]? with
    | some (.ref i)=>Nat.beq i id
    | _=>false
  | _=>false
theorem gF {id:Nat} (k q:Nat) (h:aliveB s id k q=true):Alive cx s id:=by
  unfold aliveB at h
  split at h
  · rename_i i hk; have:=Nat.eq_of_beq_eq_true h; subst this; exact fun {_ _ _} hs=>alive_t hk hs
  · rename_i o off hk
    split at h
    · rename_i cs ho
      split at h
      · rename_i i hq; have:=Nat.eq_of_beq_eq_true h; subst this; exact fun {_ _ _} hs=>alive_o hk ho hq hs
      · cases h
    · cases h
  · rename_i cs hk
    split at h
    · rename_i i hq
      have:=Nat.eq_of_beq_eq_true h; subst this
      intro A w ι hs
      obtain ⟨y,_,hr⟩:=hs.tmp k _ hk
      cases hr with
      | agg _ _ vs hl h1 hr =>
        have hlt:q<vs.length:=by rw [←hl]; exact (List.getElem?_eq_some_iff.1 hq).1
        have:=hr q _ _ hq (List.getElem?_eq_getElem hlt)
        generalize vs[q]=X at this
        cases this with
        | ref _ _ _ _ _ h=>rw [h]; rfl
    · cases h
  · cases h
def inbS (id tid:Nat) (ar:Arr) (s:AS):AS:=⟨killT tid s.t,killO tid s.o,era tid (upd id ar s.r),s.u⟩
def growS (id:Nat) (ar:Arr) (s:AS):AS:={ s with r:=upd id ar s.r }
theorem nilS_eq {id j i:Nat} {a:Arr} {et:TypeId} {sz2:Nat} {l:List (List AV)} (h:setc a.l j i (.osl et sz2 [])=l):nilS id j i a et sz2 s=growS id ⟨a.e,a.sz,l⟩ s:=by
  unfold nilS growS; rw [h]
theorem innS_eq {id j i tid:Nat} {a b:Arr} {l:List (List AV)} (h:setc a.l j i (.osl b.e b.sz b.l)=l):innS id j i tid a b s=inbS id tid ⟨a.e,a.sz,l⟩ s:=by
  unfold innS inbS; rw [h]
theorem ve_grow {ex:Exit} (id:Nat) (et:TypeId) (sz q:Nat) (ek:TypeId) (sk:Nat) (enc exp:α→List AV) (encK:β→List AV) (L:List (α×Option (List β))) (x0:α) (he:∀ a,enc a=exp a) (hz:∀ a,(enc a).length=sz)
    (k:VE cx Q ks ex (growS id ⟨et,sz,(L++[(x0,some [])]).map (encN enc q ek sk encK)⟩ s)) (har:look id s.r=some ⟨et,sz,L.map (encN enc q ek sk encK)++[(exp x0).set q .nils]⟩:=by kernel_rfl) (hq:Nat.ble (q+1) sz=true:=by kernel_rfl)
    (htg:Nat.ble TG id=true:=by kernel_rfl) (hpl:plainU s=true:=by kernel_rfl) (hnm:noMS s=true:=by kernel_rfl):VE cx Q ks ex s:=by
  have hq':=Nat.le_of_ble_eq_true hq
  refine ve_nil0 id L.length q ek sk (grow_at enc q ek sk encK L _) (by rw [List.getElem?_set,if_pos rfl,if_pos (by rw [←he,hz]; omega)]) ?_ har htg hpl hnm
  rw [nilS_eq (setc_grow enc q ek sk encK L x0 (by rw [List.set_set,he]))]
  exact k
theorem ot_grow {l:List Oper} (id:Nat) (et:TypeId) (sz q:Nat) (ek:TypeId) (sk:Nat) (enc exp:α→List AV) (encK:β→List AV) (L:List (α×Option (List β))) (x0:α) (he:∀ a,enc a=exp a) (hz:∀ a,(enc a).length=sz)
    (k:OT cx Q ks all l (growS id ⟨et,sz,(L++[(x0,some [])]).map (encN enc q ek sk encK)⟩ s)) (har:look id s.r=some ⟨et,sz,L.map (encN enc q ek sk encK)++[(exp x0).set q .nils]⟩:=by kernel_rfl) (hq:Nat.ble (q+1) sz=true:=by kernel_rfl)
    (htg:Nat.ble TG id=true:=by kernel_rfl) (hpl:plainU s=true:=by kernel_rfl) (hnm:noMS s=true:=by kernel_rfl):OT cx Q ks all l s:=by
  have hq':=Nat.le_of_ble_eq_true hq
  refine ot_nil0 id L.length q ek sk (grow_at enc q ek sk encK L _) (by rw [List.getElem?_set,if_pos rfl,if_pos (by rw [←he,hz]; omega)]) ?_ har htg hpl hnm
  rw [nilS_eq (setc_grow enc q ek sk encK L x0 (by rw [List.set_set,he]))]
  exact k
theorem ot_groO {l:List Oper} (id tid d0 ka qa:Nat) (et:TypeId) (sz q:Nat) (ek:TypeId) (sk:Nat) (enc exp:α→List AV) (encK:β→List AV) (L:List (α×Option (List β))) (x0:α) (l0:List β) (x:Value) (he:∀ a,enc a=exp a) (hz:∀ a,(enc a).length=sz)
    (k:OT cx Q ks all l (inbS id tid ⟨et,sz,(L++[(x0,some l0)]).map (encN enc q ek sk encK)⟩ s)) (har:look id s.r=some ⟨et,sz,L.map (encN enc q ek sk encK)++[(exp x0).set q (.vv x)]⟩:=by kernel_rfl) (hat:look tid s.r=some ⟨ek,sk,l0.map encK⟩:=by kernel_rfl) (hq:Nat.ble (q+1) sz=true:=by kernel_rfl)
    (hd:look d0 s.t=some (.lk tid x):=by kernel_rfl) (hal:aliveB s id ka qa=true:=by kernel_rfl) (htg:Nat.ble TG id=true:=by kernel_rfl) (hlt:Nat.ble (tid+1) TG=true:=by kernel_rfl) (hpl:plainU s=true:=by kernel_rfl) (hnm:noMS s=true:=by kernel_rfl):OT cx Q ks all l s:=by
  have hq':=Nat.le_of_ble_eq_true hq
  refine ot_inn id L.length q tid d0 (gF ka qa hal) (grow_at enc q ek sk encK L _) (by rw [List.getElem?_set,if_pos rfl,if_pos (by rw [←he,hz]; omega)]) ?_ har hat hd htg hlt hpl hnm
  rw [innS_eq (setc_grow2 enc q ek sk encK L x0 l0 (by rw [List.set_set,he]))]
  exact k
theorem pT {ex:Exit} (id tid d0 ka qa:Nat) (et:TypeId) (sz q:Nat) (ek:TypeId) (sk:Nat) (enc:α→List AV) (encK:β→List AV) (L:List (α×Option (List β))) (j:Nat) (l0:List β) (c0:AV) (hj:j<L.length) (hl:(L.getD j default).2=some l0) (hz:∀ a,(enc a).length=sz)
    (k:∀ x,VE cx Q ks ex (outS id j q tid d0 ⟨et,sz,L.map (encN enc q ek sk encK)⟩ ek sk (l0.map encK) x s)) (har:look id s.r=some ⟨et,sz,L.map (encN enc q ek sk encK)⟩:=by kernel_rfl) (hq:Nat.ble (q+1) sz=true:=by kernel_rfl)
    (hal:aliveB s id ka qa=true:=by kernel_rfl) (hd:look d0 s.t=some c0:=by kernel_rfl) (hone:c0.isOne=true:=by kernel_rfl) (hlt:Nat.ble (tid+1) BIG=true:=by kernel_rfl) (hfr:has s.u tid=false:=by kernel_rfl) (hpl:plainU s=true:=by kernel_rfl) (hnm:noMS s=true:=by kernel_rfl):VE cx Q ks ex s:=by
  obtain ⟨h1,h2⟩:=encN_at (enc:=enc) (q:=q) (ek:=ek) (sk:=sk) (encK:=encK) (sz:=sz) hj hz (Nat.le_of_ble_eq_true hq) hl
  exact ve_out id j q tid d0 (gF ka qa hal) h1 h2 k har hd hone hlt hfr hpl hnm
theorem ot_outN {l:List Oper} (id tid d0 ka qa:Nat) (et:TypeId) (sz q:Nat) (ek:TypeId) (sk:Nat) (enc:α→List AV) (encK:β→List AV) (L:List (α×Option (List β))) (j:Nat) (l0:List β) (c0:AV) (hj:j<L.length) (hl:(L.getD j default).2=some l0) (hz:∀ a,(enc a).length=sz)
    (k:∀ x,OT cx Q ks all l (outS id j q tid d0 ⟨et,sz,L.map (encN enc q ek sk encK)⟩ ek sk (l0.map encK) x s)) (har:look id s.r=some ⟨et,sz,L.map (encN enc q ek sk encK)⟩:=by kernel_rfl) (hq:Nat.ble (q+1) sz=true:=by kernel_rfl)
    (hal:aliveB s id ka qa=true:=by kernel_rfl) (hd:look d0 s.t=some c0:=by kernel_rfl) (hone:c0.isOne=true:=by kernel_rfl) (hlt:Nat.ble (tid+1) BIG=true:=by kernel_rfl) (hfr:has s.u tid=false:=by kernel_rfl) (hpl:plainU s=true:=by kernel_rfl) (hnm:noMS s=true:=by kernel_rfl):OT cx Q ks all l s:=by
  obtain ⟨h1,h2⟩:=encN_at (enc:=enc) (q:=q) (ek:=ek) (sk:=sk) (encK:=encK) (sz:=sz) hj hz (Nat.le_of_ble_eq_true hq) hl
  exact ot_out id j q tid d0 (gF ka qa hal) h1 h2 k har hd hone hlt hfr hpl hnm
theorem qK {l:List Oper} (id tid d0 ka qa:Nat) (et:TypeId) (sz q:Nat) (ek:TypeId) (sk:Nat) (enc:α→List AV) (encK:β→List AV) (L:List (α×Option (List β))) (j:Nat) (l0:List β) (x:Value) (hj:j<L.length) (hz:∀ a,(enc a).length=sz)
    (k:OT cx Q ks all l (inbS id tid ⟨et,sz,(L.set j ((L.getD j default).1,some l0)).map (encN enc q ek sk encK)⟩ s)) (har:look id s.r=some ⟨et,sz,setc (L.map (encN enc q ek sk encK)) j q (.vv x)⟩:=by kernel_rfl) (hat:look tid s.r=some ⟨ek,sk,l0.map encK⟩:=by kernel_rfl) (hq:Nat.ble (q+1) sz=true:=by kernel_rfl)
    (hd:look d0 s.t=some (.lk tid x):=by kernel_rfl) (hal:aliveB s id ka qa=true:=by kernel_rfl) (htg:Nat.ble TG id=true:=by kernel_rfl) (hlt:Nat.ble (tid+1) TG=true:=by kernel_rfl) (hpl:plainU s=true:=by kernel_rfl) (hnm:noMS s=true:=by kernel_rfl):OT cx Q ks all l s:=by
  have hq':=Nat.le_of_ble_eq_true hq
  refine ot_inn id j q tid d0 (gF ka qa hal) (na enc q ek sk encK hj (.vv x)) (by rw [List.getElem?_set,if_pos rfl,if_pos (by rw [hz]; omega)]) ?_ har hat hd htg hlt hpl hnm
  rw [innS_eq (setc_encN (enc:=enc) (q:=q) (ek:=ek) (sk:=sk) (encK:=encK) hj l0 (.vv x))]
  exact k
theorem ot_goneN {l:List Oper} (id:Nat) (et:TypeId) (sz q:Nat) (ek:TypeId) (sk:Nat) (enc:α→List AV) (encK:β→List AV) (L:List (α×Option (List β))) (j:Nat) (x:Value) (hj:j<L.length) (hz:∀ a,(enc a).length=sz)
    (k:OT cx Q ks all l (growS id ⟨et,sz,(L.set j ((L.getD j default).1,none)).map (encN enc q ek sk encK)⟩ s)) (har:look id s.r=some ⟨et,sz,setc (L.map (encN enc q ek sk encK)) j q (.vv x)⟩:=by kernel_rfl) (hq:Nat.ble (q+1) sz=true:=by kernel_rfl):OT cx Q ks all l s:=by
  have hq':=Nat.le_of_ble_eq_true hq
  refine ot_weak id j q (na enc q ek sk encK hj (.vv x)) (by rw [List.getElem?_set,if_pos rfl,if_pos (by rw [hz]; omega)]) ?_ har
  have:weakS id j q ⟨et,sz,setc (L.map (encN enc q ek sk encK)) j q (.vv x)⟩ s=growS id ⟨et,sz,(L.set j ((L.getD j default).1,none)).map (encN enc q ek sk encK)⟩ s:=by
    unfold weakS growS
    rw [setc_none enc q ek sk encK L hj]
  rw [this]; exact k
def sealbS (id nid:Nat) (ar:Arr) (s:AS):AS:=⟨mvT id nid s.t,mvO id nid s.o,upd nid ar (era id s.r),nid::s.u⟩
theorem look_same {α:Type} (k:Nat) (v:α) (l:List (Nat×α)):look k (upd k v l)=some v:=by rw [bD,if_pos rfl]
theorem era_upd {α:Type} (k:Nat) (v:α):∀ l:List (Nat×α),era k (upd k v l)=era k l
  | []=>by simp [upd,era]
  | (j,x)::r=>by
    unfold upd
    by_cases h:k=j
    · simp [h,era]
    · simp only [h,if_false,era]; rw [era_upd k v r]
theorem ve_sealN {ex:Exit} (id nid:Nat) (et:TypeId) (sz q:Nat) (ek:TypeId) (sk:Nat) (enc:α→List AV) (encK:β→List AV) (L:List (α×Option (List β))) (wk:α→List β→α) (hw:∀ x l,(enc x).set q (.sl (l.map encK))=enc (wk x l)) (hf:∀ x,(enc x).map AV.unosl=enc x) (hfl:∀ x,(enc x).all AV.flatC=true) (hL:L.all (fun p=>p.2.isSome)=true)
    (k:VE cx Q ks ex (sealbS id nid ⟨et,sz,(L.map fun p=>wk p.1 (p.2.getD [])).map enc⟩ s)) (har:look id s.r=some ⟨et,sz,L.map (encN enc q ek sk encK)⟩:=by kernel_rfl) (hn:has s.u nid=false:=by kernel_rfl) (hnp:s.u.contains (pinN id)=false:=by kernel_rfl) (hpl:plainU s=true:=by kernel_rfl) (hnm:noMS s=true:=by kernel_rfl):VE cx Q ks ex s:=by
  have hno:∀ e∈L.map (encN enc q ek sk encK),∀ c∈e,c.noOmp=true:=by
    intro e he c hc
    obtain ⟨p,_,rfl⟩:=List.mem_map.1 he
    unfold encN at hc
    rcases List.mem_or_eq_of_mem_set hc with h | h
    · have h2:=List.all_eq_true.1 (hfl p.1) c h
      cases c<;>first | rfl | (simp [AV.flatC] at h2)
    · subst h; cases p.2<;>rfl
  refine ve_seal id hno ?_ har hpl hnm
  have e1:sealS id ⟨et,sz,L.map (encN enc q ek sk encK)⟩ s=growS id ⟨et,sz,(L.map fun p=>wk p.1 (p.2.getD [])).map enc⟩ s:=by
    unfold sealS growS
    rw [show (Arr.l ⟨et,sz,L.map (encN enc q ek sk encK)⟩)=L.map (encN enc q ek sk encK) from rfl,seal_encN enc q ek sk encK wk hw hf L hL]
  rw [e1]
  refine ve_mvG id nid (ar:=⟨et,sz,(L.map fun p=>wk p.1 (p.2.getD [])).map enc⟩) (fun e he c hc=>?_) ?_ (look_same _ _ _) hn hnp
  · obtain ⟨y,_,rfl⟩:=List.mem_map.1 he
    exact List.all_eq_true.1 (hfl y) c hc
  · unfold growS
    rw [era_upd]
    exact k
end
end Go.Proofs.Ytolhpahjgddjkaa

/- Calls that look at own slices and at parts of them. No program in sight. -/
import Derived.Test.YtolhpahjgddjkaaCmVp
namespace Go.Proofs.Ytolhpahjgddjkaa
set_option linter.all false
open Go.RowKit
section
variable {cx:Cx} {Q:Exit→Act→World→Prop} {ks:List Kont} {s:AS} {all:Array Oper} {f:Func} {p:List Nat} {i:Nat}
theorem ot_lxo (nid:Nat) {id:Nat} {g:FuncId} {args l:List AV} {ar:Arr} (hc:ACalls cx.P g args (fun v s1=>v = .ref id∧look id s1.r=some ar)) (hsc:∀ e∈ar.l,∀ c∈e,scal1 c=true) (h1:callArgsLx s (opAt f p i)=some (g,args,l)) (hsr:srOk s l)
    (k:OT cx Q ks all (restAt f p (i+1)) ((coS nid ar s).put (opAt f p i).dst (.ref nid)))
    (hl:restAt f p i=opAt f p i::restAt f p (i+1):=by kernel_rfl) (hg:gon all s (opAt f p i)=true:=by kernel_rfl) (hcl:callable cx.P g=true:=by kernel_rfl) (hd:dstOk cx.n (opAt f p i).dst=true:=by kernel_rfl)
    (hn:has s.u nid=false:=by kernel_rfl) (htg:Nat.ble (id+1) TG=true:=by kernel_rfl):OT cx Q ks all (restAt f p i) s:=by
  rw [hl]
  refine dd _ hg fun a w ι hs=>?_
  refine wpList_plain rfl fun K hK=>?_
  refine lx_call hc hcl h1 hsr hs fun x v s1 ι1 w' hv hhs hr=>hK _ _ ?_
  obtain ⟨rfl,hlook⟩:=hv
  have htg:=Nat.le_of_ble_eq_true htg
  cases hr with
  | ref _ _ A n c hy =>
    have h2:HS (NN cx.M ι) (bsW w) w' (fun i=>if i=id then some (.slice A n c) else none) ⟨[],[],[(id,ar)],[id]⟩:=by
      have e1:∀ i y,(if i=id then some (Value.slice A n c) else none)=some y→i=id∧y = .slice A n c:=fun i y h=>by
        split at h
        · rename_i e; injection h with h; exact ⟨e,h.symm⟩
        · cases h
      refine ⟨hhs.below,fun b hb=>⟨eJ hs.hs hb,fun h=>h⟩,fun i y hi=>?_,fun i g hg=>?_,fun i i' g hg hg'=>?_,fun i cs hi=>(by cases hi),fun i a hi=>?_,fun i cs hi=>(by cases hi),fun i a hi hp=>?_,fun i v hv=>(by cases hv)⟩
      · rw [(e1 i y hi).1]; exact b8 (by simp)
      · have hg2:blk (if i=id then some (Value.slice A n c) else none)=some g:=hg
        split at hg2
        · rename_i e; subst e; exact hhs.own i g (by rw [hy]; exact hg2)
        · cases hg2
      · have hg2:blk (if i=id then some (Value.slice A n c) else none)=some g:=hg
        have hg3:blk (if i'=id then some (Value.slice A n c) else none)=some g:=hg'
        split at hg2
        · rename_i e
          split at hg3
          · rename_i e'; exact e.trans e'.symm
          · cases hg3
        · cases hg2
      · simp only [look] at hi
        split at hi
        · rename_i e; subst e; exact b8 (by simp)
        · cases hi
      · simp only [look] at hi
        split at hi
        · rename_i e; subst e; injection hi with hi; subst hi
          obtain ⟨v,xs,k1,k2,k3,k4,k5⟩:=hhs.arrs i _ hlook (by rw [hy]; rfl)
          rw [hy] at k1; injection k1 with k1; subst k1
          refine ⟨_,xs,if_pos rfl,k2,k3,k4,fun j e hj k c' hk=>?_⟩
          obtain ⟨x,hx,hr'⟩:=k5 j e hj k c' hk
          exact ⟨x,hx,.inl (j4 (hsc e (List.mem_of_getElem? hj) c' (List.mem_of_getElem? hk)) (hr'.flat (by omega)))⟩
        · cases hi
    obtain ⟨hs1,hNN⟩:=hs.hs.import h2 htg (if_pos rfl) (by simp [look]) hn (ar:=ar)
    have hno:=hs.hs.free hn
    have hsim:Sim cx { s with r:=upd nid ar s.r,u:=nid::s.u } a w' (ext ι nid (.slice A n c)) :=
      hs.world hs1 rfl hhs.below.plain.size (fun b hlt hb=>by
        rcases bN hb with hb | hb
        · exact hb
        · rcases (hhs.own id b (by rw [hy]; exact hb)).1 with h9 | h9; exact absurd hlt (Nat.not_lt.2 h9); exact h9.elim) (fun b hlt _=>hhs.below.plain.block b hlt) (bJ hno _)
    exact k _ _ _ (hsim.put (cL hd) (.ref _ _ _ _ _ (aP _ _ _)))
theorem dV {α:Type} (enc:α→List AV) (L:List α) (h:∀ a,∀ c∈enc a,scal1 c=true):∀ e∈L.map enc,∀ c∈e,scal1 c=true:=fun e he=>by
  obtain ⟨a,_,rfl⟩:=List.mem_map.1 he; exact h a
theorem dR (k:IntKind):∀ a,∀ c∈eInt k a,scal1 c=true:=fun a c hc=>by
  simp [eInt] at hc; subst hc; rfl
theorem HS.backS {M:Nat→Prop} {w0:Base} {w w':World} {ι ι1:Env} {s s1:AS} (h:HS M w0 w ι s) {id id0:Nat} {ar ar':Arr} {v0:Value} (htg:id0<TG) (ha:look id s.r=some ar) (hv:ι id=some v0)
    (h1:HS (fun _=>False) (bsG w id0 v0) w' ι1 s1) (ha1:look id0 s1.r=some ar') (hsc:∀ e∈ar'.l,∀ c∈e,scal1 c=true):HS M w0 w' ι (strS id ar' s)∧(∀ b,b<w.heap.size→¬ NN M ι b→w'.heap[b]?=w.heap[b]?)∧w.heap.size≤w'.heap.size:=by
  have hp1:ι1 id0=some v0:=(h1.pin id0 v0 (by simp [bsG])).1
  have hsz:w.heap.size≤w'.heap.size:=h1.below.size
  have keep:∀ b,b<w.heap.size→blk (some v0)≠some b→w'.heap[b]?=w.heap[b]?:=fun b hlt hb=>h1.below.block b hlt hb
  have keep':∀ b,b<w.heap.size→¬ NN M ι b→w'.heap[b]?=w.heap[b]?:=fun b hlt hb=>keep b hlt (fun e=>hb (.inr ⟨id,by rw [hv]; exact e⟩))
  refine ⟨⟨?_,h.old,h.use,fun i g hg=>⟨(h.own i g hg).1,Nat.lt_of_lt_of_le (h.own i g hg).2 hsz⟩,h.inj,h.ko,fun i a hi=>?_,fun i cs hi hp=>?_,fun i a hi hp=>?_,h.pin⟩,keep',hsz⟩
  · refine h.below.trans ⟨h1.below.os,h1.below.tape,h1.below.output,hsz,fun k hk hG=>keep k (Nat.lt_of_lt_of_le hk h.below.size) (fun e=>?_)⟩
    rcases (h.own id k (by rw [hv]; exact e)).1 with h2 | h2
    · omega
    · exact hG h2
  · have hi':look i (upd id ar' s.r)=some a:=hi
    rw [aR] at hi'
    split at hi'
    · rename_i e; subst e; exact h.kr i ar ha
    · exact h.kr i a hi'
  · obtain ⟨g,T,vs,e1,e2,e3⟩:=h.objs i cs hi hp
    have hne:blk (some v0)≠some g:=fun e=>by
      have:=h.inj i id g (by rw [e1]; rfl) (by rw [hv]; exact e)
      subst this
      rw [e1] at hv; injection hv with hv; subst hv
      obtain ⟨v,xs,q1,q2,_⟩:=h.arrs i ar ha (by rw [e1]; rfl)
      rw [e1] at q1; injection q1 with q1; subst q1
      rcases q2.2 with ⟨q3,_⟩ | ⟨_,_,_,q3,_⟩<;>cases q3
    exact ⟨g,T,vs,e1,(keep g (h.own i g (by rw [e1]; rfl)).2 hne).trans e2,e3.mono hsz (fun b _ hb=>hb) keep' (fun _ _ h=>h)⟩
  · have hi':look i (upd id ar' s.r)=some a:=hi
    rw [aR] at hi'
    split at hi'
    · rename_i e; subst e; injection hi' with hi'; subst hi'
      obtain ⟨v,xs,q1,q2,q3,q4,q5⟩:=h1.arrs id0 ar' ha1 (by rw [hp1]; rfl)
      rw [hp1] at q1; injection q1 with q1; subst q1
      refine ⟨v0,xs,hv,q2,q3,q4,fun j e hj k c hk=>?_⟩
      obtain ⟨x,hx,hr⟩:=q5 j e hj k c hk
      exact ⟨x,hx,.inl (j4 (hsc e (List.mem_of_getElem? hj) c (List.mem_of_getElem? hk)) (hr.flat (by omega)))⟩
    · rename_i e
      obtain ⟨v,xs,q1,q2,q3,q4,q5⟩:=h.arrs i a hi' hp
      refine ⟨v,xs,q1,bR q2 (fun g hg=>keep g (h.own i g (by rw [q1]; exact hg)).2 (fun e'=>e (h.inj i id g (by rw [q1]; exact hg) (by rw [hv]; exact e')))),q3,q4,fun j el hj k c hk=>?_⟩
      obtain ⟨x,hx,hr⟩:=q5 j el hj k c hk
      exact ⟨x,hx,hr.mono hsz (fun b _ hb=>hb) keep' (fun _ h=>h) (fun r h'=>keep r (h.mapLt h') (fun e=>by
        have:=h.inj _ id r (by rw [h']; rfl) (by rw [hv]; exact e)
        exact h.nmNe ha h' this)) (fun h=>h)⟩
def ixArg (s:AS) (id id0:Nat):AV→Option AV
  | .ref i=>match Nat.beq i id with
    | true=>some (.ref id0)
    | false=>match look i s.r,Nat.ble (i+1) TG with | some ar,true=>some (.sl ar.l) | _,_=>none
  | v=>match v.inU [] with | true=>some (pza v) | false=>none
def ixArgs (s:AS) (id id0:Nat):List AV→Option (List AV)
  | []=>some []
  | v::r=>match ixArg s id id0 v,ixArgs s id id0 r with | some x,some l=>some (x::l) | _,_=>none
theorem ixArgs_len {s:AS} {id id0:Nat}:∀ {l m:List AV},ixArgs s id id0 l=some m→m.length=l.length
  | [],m,h=>by injection h with h; subst h; rfl
  | v::r,m,h=>by
    unfold ixArgs at h
    split at h
    · rename_i x l' h1 h2; injection h with h; subst h; simp [ixArgs_len h2]
    · cases h
theorem ixArgs_get {s:AS} {id id0:Nat}:∀ {l m:List AV},ixArgs s id id0 l=some m→∀ (i:Nat) (a:AV),m[i]?=some a→∃ b,l[i]?=some b∧ixArg s id id0 b=some a
  | [],m,h,i,a,ha=>by injection h with h; subst h; simp at ha
  | v::r,m,h,i,a,ha=>by
    unfold ixArgs at h
    split at h
    · rename_i x l' h1 h2; injection h with h; subst h
      cases i with
      | zero=>exact ⟨v,rfl,by simpa using ha ▸ h1⟩
      | succ i=>simpa using ixArgs_get h2 i a (by simpa using ha)
    · cases h
def callArgsIx (s:AS) (o:Oper) (id id0:Nat):Option (FuncId×List AV) :=
  match o.op with
  | .call c=>match c.callee with
    | .value fo=>match s.ev fo,evs s c.args.toList with
      | some (.fn f []),some l=>match ixArgs s id id0 l with
        | some l'=>(match l.any (fun v=>match v with | .ref i=>Nat.beq i id | _=>false) with | true=>some (f,l') | false=>none)
        | none=>none
      | _,_=>none
    | _=>none
  | _=>none
theorem ot_ix (id id0:Nat) {g:FuncId} {args:List AV} {V:AV} {ar ar':Arr} (hc:AIO cx.P g args id0 ar (fun v s1=>v=V∧look id0 s1.r=some ar')) (hsc:∀ e∈ar.l,∀ c∈e,scal1 c=true) (hsc':∀ e∈ar'.l,∀ c∈e,scal1 c=true)
    (k:OT cx Q ks all (restAt f p (i+1)) ((strS id ar' s).put (opAt f p i).dst V))
    (hl:restAt f p i=opAt f p i::restAt f p (i+1):=by kernel_rfl) (hg:gon all s (opAt f p i)=true:=by kernel_rfl) (hcl:callable cx.P g=true:=by kernel_rfl) (h1:callArgsIx s (opAt f p i) id id0=some (g,args):=by kernel_rfl)
    (ha:look id s.r=some ar:=by kernel_rfl) (hd:(dstOk cx.n (opAt f p i).dst && V.scal)=true:=by kernel_rfl) (htg:(Nat.ble (id+1) TG && Nat.ble (id0+1) TG)=true:=by kernel_rfl):OT cx Q ks all (restAt f p i) s:=by
  rw [hl]
  refine dd _ hg fun a w ι hs=>?_
  refine wpList_plain rfl fun K hK=>?_
  simp only [Bool.and_eq_true] at hd htg
  have ht1:=Nat.le_of_ble_eq_true htg.1
  have ht2:=Nat.le_of_ble_eq_true htg.2
  unfold callArgsIx at h1
  split at h1
  case h_2=>cases h1
  rename_i c hop
  split at h1
  case h_2=>cases h1
  rename_i fo hcal
  split at h1
  case h_2=>cases h1
  rename_i f' l hf hl'
  split at h1
  case h_2=>cases h1
  rename_i l' hio
  split at h1
  case h_2=>cases h1
  rename_i hany
  injection h1 with h1; injection h1 with e1 e2; subst e1; subst e2
  obtain ⟨q1,q2⟩:=eK hs hl'
  have getv:∀ (i:Nat) (b:AV),l[i]?=some b→∃ y,(c.args.map a.eval)[i]?=some y∧Rel (NN cx.M ι) w ι b y:=fun i b hb=>by
    have hlt:i<l.length:=(List.getElem?_eq_some_iff.1 hb).1
    have hlt':i<(c.args.toList.map a.eval).length:=by have q1':=q1; simp only [List.length_map] at q1' ⊢; omega
    have hy:=List.getElem?_eq_getElem hlt'
    exact ⟨_,by rw [←Array.getElem?_toList,Array.toList_map]; exact hy,q2 i b _ hb hy⟩
  obtain ⟨v0,hv⟩:∃ v0,ι id=some v0:=by
    obtain ⟨b,hb,hbi⟩:=List.any_eq_true.1 hany
    obtain ⟨j,hj⟩:=List.getElem?_of_mem hb
    obtain ⟨y,_,hr⟩:=getv j b hj
    cases b<;>simp only [] at hbi<;>first | (cases hbi; done) | skip
    have hbi:=Nat.eq_of_beq_eq_true hbi
    subst hbi
    cases hr with
    | ref _ _ A n c h=>exact ⟨_,h⟩
  obtain ⟨v1,xs,r1,r2,r3,r4,r5⟩:=hs.hs.arrs id ar ha (by rw [hv]; rfl)
  rw [hv] at r1; injection r1 with r1; subst r1
  unfold Oper.wp
  obtain ⟨ys,hrc,hc1,_⟩:=eH (o:={ opAt f p i with guard:=none }) hs hop hcal hf hcl
  have hys:ys=[]:=List.eq_nil_of_length_eq_zero (by simpa using hc1.symm)
  subst hys
  have hxs:c.args.map a.eval++([]:List Value).toArray=c.args.map a.eval:=by simp
  rw [hrc,Oper.upon_enter,hxs]
  -- what the callee may write: the slice's block alone
  have hNo:∀ b,NN (fun _=>False) (ext noEnv id0 v0) b→blk (some v0)=some b:=fun b hb=>by
    rcases hb with hb | ⟨i,hb⟩
    · exact hb.elim
    · by_cases e:i=id0
      · subst e; rw [aP] at hb; exact hb
      · rw [aB _ _ e] at hb; cases hb
  refine (hc (fun _=>False) w _ v0 xs (fun b hb=>hb.elim) r2 r3 r4 (fun j e he i c hc=>?_) ?_ (fun i a' x ha' hx=>?_)).mono ?_
  · obtain ⟨x,hx,hr⟩:=r5 j e he i c hc
    exact ⟨x,hx,j4 (hsc e (List.mem_of_getElem? he) c (List.mem_of_getElem? hc)) (hr.flat (by omega))⟩
  · rw [ixArgs_len hio]; simp at q1 ⊢; omega
  · obtain ⟨b,hb,hba⟩:=ixArgs_get hio i _ ha'
    obtain ⟨y,hy,hr⟩:=getv i b hb
    rw [hx] at hy; injection hy with hy; subst hy
    unfold ixArg at hba
    split at hba
    · rename_i j
      split at hba
      · rename_i hji
        have hji:=Nat.eq_of_beq_eq_true hji
        subst hji
        injection hba with hba; subst hba
        cases hr with
        | ref _ _ A n c h =>
          rw [hv] at h; injection h with h; subst h
          exact .ref _ _ _ _ _ (aP _ _ _)
      · rename_i hji
        have hne:j≠id:=fun e=>by subst e; simp at hji
        split at hba
        · rename_i ar2 har2 htg2
          injection hba with hba; subst hba
          cases hr with
          | ref _ _ A n c h =>
            have hse:=(hs.hs.sealed (Nat.le_of_ble_eq_true htg2) har2 A n c h noEnv)
            generalize ar2.l=ll at hse ⊢
            cases hse with
            | sl0=>exact .sl0 _ _ _
            | sl _ _ b o c0 sz0 val hz hb' hn h1 hc' hr' hcap =>
              refine .sl _ _ b o _ sz0 val hz hb' (fun hh=>?_) h1 hc' (fun j' e' he' i' x' hx'=>?_) hcap
              · have:=hs.hs.inj j id b (by rw [h]; rfl) (by rw [hv]; exact hNo b hh)
                exact hne this
              · have h9:=hr' j' e' he' i' x' hx'
                refine h9.mono (Nat.le_refl _) (fun b2 _ hb2=>?_) (fun _ _ _=>rfl) (fun _ _ h=>h)
                exact .inr ⟨id,by rw [ci _ (Ne.symm hne),hv]; exact hNo b2 hb2⟩
        · cases hba
    · split at hba
      · rename_i hp
        injection hba with hba; subst hba
        exact j6 ((hr.pure hp (ext noEnv id0 v0)).mono (Nat.le_refl _) (fun b _ hb=>.inr ⟨id,by rw [hv]; exact hNo b hb⟩) (fun _ _ _=>rfl) (fun _ _ h=>h))
      · cases hba
  · rintro e w' ⟨x,v,s1,ι1,rfl,⟨rfl,hlook⟩,hhs,hr⟩
    obtain ⟨g1,g3,g4⟩:=hs.hs.backS ht2 ha hv hhs hlook hsc'
    have hsim:Sim cx (strS id ar' s) a w' ι:=hs.world g1 rfl g4 (fun b _ hb=>hb) g3 (fun _ _ h=>h)
    exact hK _ _ (k _ _ _ (hsim.put (cL hd.1) (scal_rel hd.2 hr)))
end
end Go.Proofs.Ytolhpahjgddjkaa

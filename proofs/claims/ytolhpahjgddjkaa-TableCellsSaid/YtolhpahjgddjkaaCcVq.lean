/- Calls that look at own slices and at parts of them. No program in sight. -/
import Derived.Test.YtolhpahjgddjkaaCcVp
namespace Go.Proofs.Ytolhpahjgddjkaa
set_option linter.all false
open Go.RowKit
section
variable {cx:Cx} {Q:Exit→Act→World→Prop} {ks:List Kont} {s:AS} {all:Array Oper} {f:Func} {p:List Nat} {i:Nat}
theorem ot_lxo (nid:Nat) {id:Nat} {g:FuncId} {args l:List AV} {ar:Arr} (hc:ACalls cx.P g args (fun v s1=>v = .ref id∧look id s1.r=some ar)) (hsc:∀ e∈ar.l,∀ c∈e,scal1 c=true) (h1:callArgsLx s (opAt f p i)=some (g,args,l)) (hsr:srOk s l)
    (k:OT cx Q ks all (restAt f p (i+1)) ((coS nid ar s).put (opAt f p i).dst (.ref nid)))
    (hl:restAt f p i=opAt f p i::restAt f p (i+1):=by kernel_rfl) (hg:gon all s (opAt f p i)=true:=by kernel_rfl) (hcl:callable cx.P g=true:=by kernel_rfl) (hd:dstOk cx.n (opAt f p i).dst=true:=by kernel_rfl)
    (hn:has s.u nid=false:=by kernel_rfl) (htg:Nat.ble (id+1) TG=true:=by kernel_rfl):OT cx Q ks all (restAt f p i) s:=by
  rw [hl]
  refine fO _ hg fun a w ι hs=>?_
  refine wpList_plain rfl fun K hK=>?_
  refine lx_call hc hcl h1 hsr hs fun x v s1 ι1 w' hv hhs hr=>hK _ _ ?_
  obtain ⟨rfl,hlook⟩:=hv
  have htg:=Nat.le_of_ble_eq_true htg
  cases hr with
  | ref _ _ A n c hy =>
    have h2:HS (NN cx.M ι) (bsW w) w' (fun i=>if i=id then some (.slice A n c) else none) ⟨[],[],[(id,ar)],[id]⟩:=by
      have e1:∀ i y,(if i=id then some (Value.slice A n c) else none)=some y→i=id∧y = .slice A n c:=fun i y h=>by
        split at h
        · rename_i e; injection h with h; exact ⟨e,h.symm⟩
        · cases h
      refine ⟨hhs.below,fun b hb=>⟨jQ hs.hs hb,fun h=>h⟩,fun i y hi=>?_,fun i g hg=>?_,fun i i' g hg hg'=>?_,fun i cs hi=>(by cases hi),fun i a hi=>?_,fun i cs hi=>(by cases hi),fun i a hi hp=>?_,fun i v hv=>(by cases hv)⟩
      · rw [(e1 i y hi).1]; exact dz (by simp)
      · have hg2:blk (if i=id then some (Value.slice A n c) else none)=some g:=hg
        split at hg2
        · rename_i e; subst e; exact hhs.own i g (by rw [hy]; exact hg2)
        · cases hg2
      · have hg2:blk (if i=id then some (Value.slice A n c) else none)=some g:=hg
        have hg3:blk (if i'=id then some (Value.slice A n c) else none)=some g:=hg'
        split at hg2
        · rename_i e
          split at hg3
          · rename_i e'; exact e.trans e'.symm
          · cases hg3
        · cases hg2
      · simp only [look] at hi
        split at hi
        · rename_i e; subst e; exact dz (by simp)
        · cases hi
      · simp only [look] at hi
        split at hi
        · rename_i e; subst e; injection hi with hi; subst hi
          obtain ⟨v,xs,k1,k2,k3,k4,k5⟩:=hhs.arrs i _ hlook (by rw [hy]; rfl)
          rw [hy] at k1; injection k1 with k1; subst k1
          refine ⟨_,xs,if_pos rfl,k2,k3,k4,fun j e hj k c' hk=>?_⟩
          obtain ⟨x,hx,hr'⟩:=k5 j e hj k c' hk
          exact ⟨x,hx,.inl (scal1_rel (hsc e (List.mem_of_getElem? hj) c' (List.mem_of_getElem? hk)) (hr'.flat (by omega)))⟩
        · cases hi
    obtain ⟨hs1,hNN⟩:=hs.hs.import h2 htg (if_pos rfl) (by simp [look]) hn (ar:=ar)
    have hno:=hs.hs.free hn
    have hsim:Sim cx { s with r:=upd nid ar s.r,u:=nid::s.u } a w' (ext ι nid (.slice A n c)) :=
      hs.world hs1 rfl hhs.below.plain.size (fun b hlt hb=>by
        rcases dt hb with hb | hb
        · exact hb
        · rcases (hhs.own id b (by rw [hy]; exact hb)).1 with h9 | h9; exact absurd hlt (Nat.not_lt.2 h9); exact h9.elim) (fun b hlt _=>hhs.below.plain.block b hlt) (c9 hno _)
    exact k _ _ _ (hsim.put (fU hd) (.ref _ _ _ _ _ (bS _ _ _)))
theorem pX {α:Type} (enc:α→List AV) (L:List α) (h:∀ a,∀ c∈enc a,scal1 c=true):∀ e∈L.map enc,∀ c∈e,scal1 c=true:=fun e he=>by
  obtain ⟨a,_,rfl⟩:=List.mem_map.1 he; exact h a
theorem sc_int (k:IntKind):∀ a,∀ c∈eInt k a,scal1 c=true:=fun a c hc=>by
  simp [eInt] at hc; subst hc; rfl
theorem lx_take {α:Type} (enc:α→List AV) (L:List α) (off m:Nat):List.take m (List.drop off (L.map enc))=(List.take m (List.drop off L)).map enc:=by rw [List.map_take,List.map_drop]
theorem sr_of {α:Type} (enc:α→List AV) {L:List α} {off m:Nat} (h:decide (off+m≤L.length)=true):off+m≤(L.map enc).length:=by rw [List.length_map]; exact of_decide_eq_true h
end
end Go.Proofs.Ytolhpahjgddjkaa

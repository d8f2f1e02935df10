/- New slices of the call's own: an empty literal, make. No program in sight. -/
import Derived.Test.YtlpndemhnpajiaaSmVd
namespace Go.Proofs.Ytlpndemhnpajiaa
set_option linter.all false
open Go.RowKit
theorem HS.newArr {M : Nat → Prop} {w0 : Base} {w : World} {ι : Env} {s : AS} (h : HS M w0 w ι s) {d : Nat} (hd : s.u.contains d = false) {e : TypeId} {sz n : Nat} {l : List (List AV)} {vs : List Value} (hn : l.length = n) (hm : n ≤ maxLen) (hvs : vs.length = n * sz) (hz : ∀ c ∈ l, c.length = sz) (h1 : ∀ v ∈ vs, v.oneCell' = true)
    (hc : ∀ (j : Nat) (c : List AV), l[j]? = some c → ∀ (i : Nat) (x : AV), c[i]? = some x → ∃ v, vs[j * sz + i]? = some v ∧ Rel (NN M ι) w noEnv x v) :
    HS M w0 (w.alloc (.cells vs.toArray e)) (ext ι d (.slice (some ⟨w.heap.size, 0, none⟩) n n)) { s with r := upd d ⟨e, sz, l⟩ s.r, u := d :: s.u } := by
  have hno := h.free hd
  have hw0 : w0.w.heap.size ≤ w.heap.size := h.below.size
  have keep : ∀ b, b < w.heap.size → ¬ NN M ι b → (w.alloc (.cells vs.toArray e)).heap[b]? = w.heap[b]? := fun b hb _ => Below.heap_alloc _ _ _ hb
  have hN : ∀ b, b < w.heap.size → NN M (ext ι d (.slice (some ⟨w.heap.size, 0, none⟩) n n)) b → NN M ι b := fun b hb hh => by
    rcases NN_ext hh with hh | hh
    · exact hh
    · injection hh with hh; simp only [] at hh; omega
  have hk := ext_keep hno (.slice (some ⟨w.heap.size, 0, none⟩) n n)
  refine ⟨h.below.alloc hw0 _, h.old, fun i y hy => ?_, fun i g hg => ?_, fun i i' g hg hg' => ?_, fun i cs hi => contains_cons_of (h.ko i cs hi), fun i a hi => ?_, fun i cs hi hp => ?_, fun i a hi hp => ?_, fun i y hp => ⟨hk i y (h.pin i y hp).1, contains_cons_of (h.pin i y hp).2⟩⟩
  · by_cases e : i = d
    · subst e; exact contains_head _ _
    · rw [ext_ne _ _ e] at hy; exact contains_cons_of (h.use i y hy)
  · by_cases e : i = d
    · subst e; rw [ext_same] at hg; injection hg with hg; simp only [] at hg; subst hg; exact ⟨.inl hw0, by simp⟩
    · rw [ext_ne _ _ e] at hg; exact ⟨(h.own i g hg).1, by have := (h.own i g hg).2; simp; omega⟩
  · by_cases e : i = d
    · by_cases e' : i' = d
      · omega
      · subst e; rw [ext_same] at hg; rw [ext_ne _ _ e'] at hg'
        injection hg with hg; simp only [] at hg
        have := (h.own i' g hg').2; omega
    · by_cases e' : i' = d
      · subst e'; rw [ext_same] at hg'; rw [ext_ne _ _ e] at hg
        injection hg' with hg'; simp only [] at hg'
        have := (h.own i g hg).2; omega
      · rw [ext_ne _ _ e] at hg; rw [ext_ne _ _ e'] at hg'; exact h.inj i i' g hg hg'
  · simp only [look_upd] at hi
    by_cases e : i = d
    · subst e; exact contains_head _ _
    · rw [if_neg e] at hi; exact contains_cons_of (h.kr i a hi)
  · have e : i ≠ d := by rintro rfl; have := h.ko i cs hi; rw [hd] at this; cases this
    rw [ext_ne _ _ e] at hp
    obtain ⟨g', T', vs1, h1, h2, h3⟩ := h.objs i cs hi hp
    have hlt := (h.own i g' (by rw [h1]; rfl)).2
    exact ⟨g', T', vs1, (ext_ne _ _ e).trans h1, (Below.heap_alloc _ _ _ hlt).trans h2, h3.mono (by simp) hN keep hk⟩
  · simp only [look_upd] at hi
    by_cases ei : i = d
    · subst ei
      rw [if_pos rfl] at hi; injection hi with hi; subst hi
      refine ⟨_, vs, ext_same _ _ _, ⟨by simp [hvs, hn], .inr ⟨w.heap.size, n, vs.toArray, by simp [hn], Nat.zero_le _, heap_alloc_new w _, by simp [hn], hm, by simpa using hvs, by simp [hn, ← hvs]⟩⟩, hz, h1, fun j c hj k x hk' => ?_⟩
      obtain ⟨v, hv, hr⟩ := hc j c hj k x hk'
      exact ⟨v, hv, hr.mono (by simp) hN keep (fun _ _ h => h)⟩
    · rw [if_neg ei] at hi
      rw [ext_ne _ _ ei] at hp
      obtain ⟨v, xs, g1, g2, g3, g4, g5⟩ := h.arrs i a hi hp
      refine ⟨v, xs, (ext_ne _ _ ei).trans g1, own_row_keep g2 (fun g' hg' => Below.heap_alloc _ _ _ (h.own i g' (by rw [g1]; exact hg')).2), g3, g4, fun j el hj k c hk' => ?_⟩
      obtain ⟨x, hx, hr⟩ := g5 j el hj k c hk'
      exact ⟨x, hx, hr.mono (by simp) hN keep (fun _ _ h => h)⟩
theorem Sim.newArr {cx : Cx} {s : AS} {a : Act} {w : World} {ι : Env} (h : Sim cx s a w ι) {d : Nat} (hdn : d < cx.n) (hd : s.u.contains d = false) {e : TypeId} {sz n : Nat} {l : List (List AV)} {vs : List Value} (hn : l.length = n) (hm : n ≤ maxLen) (hvs : vs.length = n * sz) (hz : ∀ c ∈ l, c.length = sz) (h1 : ∀ v ∈ vs, v.oneCell' = true)
    (hc : ∀ (j : Nat) (c : List AV), l[j]? = some c → ∀ (i : Nat) (x : AV), c[i]? = some x → ∃ v, vs[j * sz + i]? = some v ∧ Rel (NN cx.M ι) w noEnv x v) :
    Sim cx { t := upd d (.ref d) s.t, o := s.o, r := upd d ⟨e, sz, l⟩ s.r, u := d :: s.u } (a.put (some d) (.slice (some ⟨w.heap.size, 0, none⟩) n n)) (w.alloc (.cells vs.toArray e)) (ext ι d (.slice (some ⟨w.heap.size, 0, none⟩) n n)) := by
  have hs := h.hs.newArr hd hn hm hvs hz h1 hc (e := e)
  have h2 : Sim cx { s with r := upd d ⟨e, sz, l⟩ s.r, u := d :: s.u } a (w.alloc (.cells vs.toArray e)) (ext ι d (.slice (some ⟨w.heap.size, 0, none⟩) n n)) :=
    h.world hs rfl (by simp) (fun b hb hh => by
      rcases NN_ext hh with hh | hh
      · exact hh
      · injection hh with hh; simp only [] at hh; omega) (fun b hb _ => Below.heap_alloc _ _ _ hb) (ext_keep (h.hs.free hd) _)
  exact h2.put (d := some d) (fun k hk => by injection hk with hk; subst hk; exact hdn) (.ref _ _ _ _ _ (ext_same _ _ _))
theorem range0 : Array.range 0 = #[] := rfl
section
variable {cx : Cx} {Q : Exit → Act → World → Prop} {ks : List Kont} {s : AS}
theorem ot_gon {all : Array Oper} {r : List Oper} (o : Oper) (hg : gon all s o = true) (h : OT cx Q ks all ({ o with guard := none } :: r) s) : OT cx Q ks all (o :: r) s := by
  unfold gon at hg
  split at hg
  · rename_i h0
    have : ({ o with guard := none } : Oper) = o := by cases o; simp at h0; subst h0; rfl
    rw [this] at h; exact h
  · rename_i j b h0
    split at hg
    · rename_i v hv0
      obtain ⟨og, d', g1, g2, g3⟩ := gval_spec hv0
      have hb : v = b := by cases v <;> cases b <;> simp at hg ⊢
      subst hb
      exact ot_onl h0 g1 g2 g3 h
    · cases hg
def mkb (n : Int) (bytes : Nat) : Bool := decide (0 ≤ n) && (decide (n ≤ 9223372036854775807) && decide (n.toNat * bytes ≤ 140737488355328))
theorem run_make {P : Program} (w : World) (t e : TypeId) (i : TypeInfo) (z : Value) (ht : P.underlying t = some (.slice e)) (hi : P.info? e = some i) (hz : i.zero = some z)
    (kl kc : IntKind) (l : Int) (h0 : 0 ≤ l) (h63 : l ≤ 9223372036854775807) (hroom : l.toNat * i.bytes ≤ 140737488355328) (hpos : 0 < i.size) :
    (Instr.makeSlice t (.int kl l) (.int kc l)).run P w = .ok (.slice (some ⟨w.heap.size, 0, none⟩) l.toNat l.toNat) (w.alloc (.cells ((Array.range (l.toNat * i.size)).map (z.cells[· % z.cells.size]!)) e)) := by
  have wl : IntKind.i64.wrap l = l := by rw [IntKind.wrap_i64]; omega
  have n1 : ¬ l < 0 := by omega
  have n2 : ¬ (281474976710656 < (i.bytes : Int) * l) := by
    have : (i.bytes : Int) * l = ((l.toNat * i.bytes : Nat) : Int) := by
      rw [Int.natCast_mul, Int.toNat_of_nonneg h0, Int.mul_comm]
    omega
  have n5 : ¬ (140737488355328 < l.toNat * i.bytes) := by omega
  by_cases hn : l.toNat * i.size = 0
  · have hl0 : l.toNat = 0 := by
      rcases Nat.mul_eq_zero.1 hn with h | h
      · exact h
      · omega
    simp [Instr.makeSlice, run_underlying ht, asInt, asIntOf, typeInfo, hi, sizeOf, wl, n1, n2, n5, newRow, askRoom, roomBytes, hl0, range0]
  · simp [Instr.makeSlice, run_underlying ht, asInt, asIntOf, typeInfo, hi, sizeOf, zeroValue, hz, wl, n1, n2, n5, newRow, askRoom, roomBytes]
    intro hh
    exact absurd hh (by simpa using hn)
theorem ot_mks {α : Type} (enc : α → List AV) (zt : α) {all : Array Oper} {l r : List Oper} (o : Oper) (T : TypeId) (x y : Operand) (d : Nat) {e : TypeId} {sz : Nat} {zc : List AV} {bytes : Nat} {n : Int} {kd kd' : IntKind} (hl : l = o :: r) (hg : gon all s o = true) (hop : o.op = .makeSlice T x y) (hd : o.dst = some d) (hn : Nat.ble (d + 1) cx.n = true)
    (hx : s.ev x = some (.int kd n)) (hy : s.ev y = some (.int kd' n)) (ht : tapp cx.P T = some (e, sz, bytes)) (hz : tzero cx.P e = some zc) (he : zc.map pzc = enc zt) (hu : s.u.contains d = false) (hb : mkb n bytes = true)
    (k : OT cx Q ks all r { t := upd d (.ref d) s.t, o := s.o, r := upd d ⟨e, sz, List.map enc (List.replicate n.toNat zt)⟩ s.r, u := d :: s.u }) : OT cx Q ks all l s := by
  subst hl
  refine ot_gon o hg fun a w ι hs => ?_
  refine wpList_plain rfl fun K hK => ?_
  simp only [mkb, Bool.and_eq_true, decide_eq_true_eq] at hb
  obtain ⟨b0, b1, b2⟩ := hb
  unfold tapp at ht
  split at ht
  case h_2 => cases ht
  rename_i e' hu'
  split at ht
  case h_2 => cases ht
  rename_i ti hti
  split at ht
  case h_2 => cases ht
  rename_i z hzz
  split at ht
  case isFalse => cases ht
  rename_i hsz
  injection ht with ht; injection ht with h1 ht; injection ht with h2 h3
  subst h1; subst h2; subst h3
  have hzc : ofVs z.cells.toList = some zc := by simpa [tzero, hti, hzz] using hz
  have hcells := (ofVs_cells (NN cx.M ι) w noEnv hzc)
  have hpz := hcells.pz
  have hrun := run_make w T e' ti z hu' hti hzz kd kd' n b0 b1 b2 hsz.2
  have hlen : zc.length = ti.size := by rw [hcells.len, ← hsz.1]; simp
  have hget : ∀ q, q < n.toNat * ti.size → ((Array.range (n.toNat * ti.size)).map (z.cells[· % z.cells.size]!)).toList[q]? = z.cells.toList[q % ti.size]? := fun q hq => by
    have hm : q % ti.size < z.cells.size := by rw [hsz.1]; exact Nat.mod_lt _ hsz.2
    simp [hq, hsz.1]
    rw [getElem!_pos z.cells (q % ti.size) hm, Array.getElem?_eq_getElem hm]
  have hs2 := hs.newArr (Nat.le_of_ble_eq_true hn) hu (e := e') (sz := ti.size) (n := n.toNat) (l := List.map enc (List.replicate n.toNat zt)) (vs := ((Array.range (n.toNat * ti.size)).map (z.cells[· % z.cells.size]!)).toList) (by simp) (by unfold maxLen; omega) (by simp)
    (fun c hc => by
      simp only [List.map_replicate, List.mem_replicate] at hc
      rw [hc.2, ← he, List.length_map, hlen])
    (fun v hv => by
      obtain ⟨q, hq⟩ := List.getElem?_of_mem hv
      have hlt : q < n.toNat * ti.size := by have := (List.getElem?_eq_some_iff.1 hq).1; simpa using this
      rw [hget q hlt] at hq
      exact hcells.one v (List.mem_of_getElem? hq))
    (fun j c hj i x hx => by
      simp only [List.map_replicate, List.getElem?_replicate] at hj
      split at hj
      · rename_i hjn
        injection hj with hj; subst hj
        rw [← he] at hx
        have hi : i < ti.size := by have := (List.getElem?_eq_some_iff.1 hx).1; rw [List.length_map, hlen] at this; exact this
        have hq : j * ti.size + i < n.toNat * ti.size := by
          have : (j + 1) * ti.size ≤ n.toNat * ti.size := Nat.mul_le_mul_right _ hjn
          rw [Nat.add_mul, Nat.one_mul] at this; omega
        have hmod : (j * ti.size + i) % ti.size = i := by rw [Nat.mul_comm, Nat.mul_add_mod, Nat.mod_eq_of_lt hi]
        rw [hget _ hq, hmod]
        have hv := List.getElem?_eq_getElem (l := z.cells.toList) (i := i) (by rw [← hcells.len, hlen]; exact hi)
        exact ⟨_, hv, hpz.rel i x _ hx hv⟩
      · cases hj)
  unfold Oper.wp execOp
  simp only [hop, Sem.run_bind, ev_int hs hx, ev_int hs hy, hrun, Result.andThen_ok, Sem.run_pure]
  rw [hd]
  have := k _ _ _ hs2
  simp only [Array.toArray_toList] at this
  exact hK _ _ this
end
theorem one_agg {id : Nat} {i : Nat} {cs : List AV} (hi : cs[i]? = some (.ref id)) : ∀ (N : Nat → Prop) w ι x, Rel N w ι (.agg cs) x → ∃ y, ι id = some y := by
  intro N w ι x h
  cases h with
  | agg _ _ vs hl _ hr =>
    have hlt : i < vs.length := by rw [← hl]; exact (List.getElem?_eq_some_iff.1 hi).1
    exact one_ref id N w ι _ (hr i _ _ hi (List.getElem?_eq_getElem hlt))
theorem one_tupa {id : Nat} {i j : Nat} {cs ds : List AV} (hi : cs[i]? = some (.agg ds)) (hj : ds[j]? = some (.ref id)) : ∀ (N : Nat → Prop) w ι x, Rel N w ι (.tup cs) x → ∃ y, ι id = some y := by
  intro N w ι x h
  cases h with
  | tup _ _ vs hl hr =>
    have hlt : i < vs.length := by rw [← hl]; exact (List.getElem?_eq_some_iff.1 hi).1
    exact one_agg hj N w ι _ (hr i _ _ hi (List.getElem?_eq_getElem hlt))
end Go.Proofs.Ytlpndemhnpajiaa

/- Laws of the walk on structs of any number of cells: a whole struct read, stored into a new variable, laid out as a slice of one element. No program in sight. -/
import Derived.Test.YtkciiamllegclaaBase
namespace Go.Proofs.Ytkciiamllegclaa
open Go.ChangeShapes Go.WideShapes Go.ChangeAt Go.RowKit

/-- A list of values over cells of the same number: all are replaced. -/
theorem foldl_set (l : List Value) : ∀ (off : Nat) (cs : Array Value), off + l.length ≤ cs.size →
    ((l.zipIdx off).foldl (fun (a : Array Value) (x : Value × Nat) => a.setIfInBounds x.2 x.1) cs).toList = cs.toList.take off ++ l ++ cs.toList.drop (off + l.length) := by
  induction l with
  | nil => intro off cs _; simp
  | cons v r ih =>
    intro off cs h
    simp only [List.length_cons] at h
    simp only [List.zipIdx_cons, List.foldl_cons]
    rw [ih (off + 1) _ (by simp; omega)]
    simp only [Array.toList_setIfInBounds, List.length_cons]
    have hlt : off < cs.toList.length := by simp; omega
    have h1 : (cs.toList.set off v).take (off + 1) = cs.toList.take off ++ [v] := by
      rw [List.take_succ_eq_append_getElem (by simpa using hlt), List.take_set, List.set_eq_of_length_le (by rw [List.length_take]; omega)]
      simp
    have h2 : (cs.toList.set off v).drop (off + 1 + r.length) = cs.toList.drop (off + (r.length + 1)) := by
      rw [List.drop_set, if_pos (by omega)]
      congr 1; omega
    rw [h1, h2]
    simp
theorem foldl_all (cs f : Array Value) (hs : cs.size = f.size) : f.zipIdx.foldl (fun (a : Array Value) (x : Value × Nat) => a.setIfInBounds (0 + x.2) x.1) cs = f := by
  have h := foldl_set f.toList 0 cs (by simp [hs])
  have hd : cs.toList.drop (0 + f.toList.length) = [] := List.drop_eq_nil_of_le (by simp [hs])
  rw [hd] at h
  simp only [List.take_zero, List.nil_append, List.append_nil] at h
  rw [← Array.foldl_toList]
  simp only [Array.toList_zipIdx, Nat.zero_add]
  exact Array.toList_inj.1 h
theorem fill_whole (place : Nat → Option (Nat × Nat)) (cells f : Array Value) (hp : place 0 = some (0, f.size)) (hs : cells.size = f.size) :
    Instr.fill place cells [(0, .agg f)] = some f := by
  unfold Instr.fill
  simp only [hp]
  have e : (Value.agg f).cells = f := rfl
  rw [e, if_neg (by simp [hs]), foldl_all cells f hs]
  rfl
section
variable {P : Program} {ops : Array Oper} {rest : List Oper} {o : Oper} {a : Act} {w : World} {Q : Exit → Act → World → Prop}
/-- Looks at the next operation: a load, a store, a slice literal. -/
theorem at_ld {d : Option Tmp} {ty : TypeId} {x : Operand} {t : TypeId} {p : String} {af : Array Edge} {g : Option (Nat × Bool)} (h : wpList P ops Q (⟨d, .load ty x, t, p, af, g⟩ :: rest) a w) : wpList P ops Q (⟨d, .load ty x, t, p, af, g⟩ :: rest) a w := h
theorem at_st {d : Option Tmp} {ty : TypeId} {x y : Operand} {t : TypeId} {p : String} {af : Array Edge} {g : Option (Nat × Bool)} (h : wpList P ops Q (⟨d, .store ty x y, t, p, af, g⟩ :: rest) a w) : wpList P ops Q (⟨d, .store ty x y, t, p, af, g⟩ :: rest) a w := h
theorem at_sl {d : Option Tmp} {ty : TypeId} {n : Nat} {ps : Array (Nat × Operand)} {t : TypeId} {p : String} {af : Array Edge} {g : Option (Nat × Bool)} (h : wpList P ops Q (⟨d, .buildSlice ty n ps, t, p, af, g⟩ :: rest) a w) : wpList P ops Q (⟨d, .buildSlice ty n ps, t, p, af, g⟩ :: rest) a w := h
/-- A struct is laid out as a slice of one element: a new block holds its cells. -/
theorem wpList_slice_one (hgd : o.guard = none) (t e : TypeId) (x : Operand) (ho : o.op = .buildSlice t 1 #[(0, x)]) (ht : P.underlying t = some (.slice e)) {f : Array Value} (hx : a.eval x = .agg f)
    {i : TypeInfo} {z : Value} (hi : P.info? e = some i) (hz : i.zero = some z) (hsz : i.size = f.size) (hzs : z.cells.size = f.size) (hpos : 0 < f.size) (hbig : f.size ≤ 16777216) (g : Nat) (hgs : w.heap.size = g)
    (h : wpList P ops Q rest (a.put o.dst (.slice (some ⟨g, 0, none⟩) 1 1)) (w.alloc (.cells f e))) : wpList P ops Q (o :: rest) a w := by
  subst hgs
  refine wpList_plain hgd fun _ hK => ?_
  unfold Oper.wp execOp
  have hfill := fill_whole (fun i => some (i * f.size, f.size)) ((Array.range (1 * f.size)).map (z.cells[· % z.cells.size]!)) f (by simp) (by simp)
  have hb : ¬ 1 * f.size > 2 ^ 24 := by omega
  have h0 : ¬ 1 * f.size = 0 := by omega
  have hm : (#[(0, x)] : Array (Nat × Operand)).map (fun (y : Nat × Operand) => (y.1, a.eval y.2)) = #[(0, .agg f)] := by simp [hx]
  have hrun : (Instr.buildSlice t 1 #[(0, .agg f)]).run P w = .ok (.slice (some ⟨w.heap.size, 0, none⟩) 1 1) (w.alloc (.cells f e)) := by
    have hb' : ¬ 16777216 < f.size := by omega
    have h0' : ¬ f.size = 0 := by omega
    simp only [Nat.one_mul] at hfill
    simp [Instr.buildSlice, run_underlying ht, sizeOf, typeInfo, zeroValue, hi, hz, hsz, newRow, hb', h0', hfill]
  simp only [ho]
  show o.upon P a _ Q ((do pure (Next.value (← Instr.buildSlice t 1 ((#[(0, x)] : Array (Nat × Operand)).map (fun (y : Nat × Operand) => (y.1, a.eval y.2)))))).run P w)
  rw [hm, Sem.run_bind, hrun]
  exact hK _ _ h
/-- A whole struct is read out of a block that is known. -/
theorem ld_blk (hgd : o.guard = none) (ty : TypeId) (x : Operand) (ho : o.op = .load ty x) (g : Nat) (hx : a.eval x = .pointer (some ⟨g, 0, none⟩)) {t : TypeId} {f : Array Value} (hg : Blk w g t f)
    {d : TypeDesc} (hu : P.underlying ty = some d) (hd : d.isRow = true) (hi : (P.info? ty).map (·.size) = some f.size) (h : wpList P ops Q rest (a.put o.dst (.agg f)) w) : wpList P ops Q (o :: rest) a w :=
  wpList_load_row hgd _ x ho g hx t f (0, 0) d hg hu (by cases d <;> simp_all [TypeDesc.isRow]) hi h
/-- .. out of the midst of a block. -/
theorem ld_rng (hgd : o.guard = none) (ty : TypeId) (x : Operand) (ho : o.op = .load ty x) (b off : Nat) (hx : a.eval x = .pointer (some ⟨b, off, none⟩)) {f : Array Value} (hg : w.rangeAt b off f.toList)
    {d : TypeDesc} (hu : P.underlying ty = some d) (hd : d.isRow = true) (hi : (P.info? ty).map (·.size) = some f.size) (h : wpList P ops Q rest (a.put o.dst (.agg f)) w) : wpList P ops Q (o :: rest) a w :=
  wpList_load_mid hgd ty x ho b off hx f.toList d hg hu hd (by simpa using hi) (by simpa using h)
theorem setRow_new (w : World) (c c' : Array Value) (t : TypeId) : (w.alloc (.cells c t)).setRow w.heap.size c' = w.alloc (.cells c' t) := by
  simp only [World.setRow, World.alloc]
  congr 1
  apply Array.ext_getElem?
  intro i
  rw [Array.getElem?_modify]
  by_cases h : w.heap.size = i
  · subst h
    simp
  · have h' : ¬ i = w.heap.size := fun e => h e.symm
    simp [h, h', Array.getElem?_push]
/-- A whole struct is stored into the variable that was made last. -/
theorem st_new {w0 : World} {c : Array Value} {t : TypeId} (hgd : o.guard = none) (ty : TypeId) (x y : Operand) (ho : o.op = .store ty x y) (g : Nat) (hx : a.eval x = .pointer (some ⟨g, 0, none⟩)) (hgs : w0.heap.size = g) {f : Array Value} (hy : a.eval y = .agg f)
    (hi : (P.info? ty).map (·.size) = some f.size) (hc : c.size = f.size) (h1 : f.all (·.oneCell') = true) (h : wpList P ops Q rest (a.put o.dst undef) (w0.alloc (.cells f t))) : wpList P ops Q (o :: rest) a (w0.alloc (.cells c t)) := by
  subst hgs
  exact wpList_store_row hgd ty x y ho w0.heap.size f hx hy t c (heap_alloc_new w0 _) hi hc h1 (by rw [setRow_new]; exact h)
/-- A whole struct is stored into a block that is known. -/
theorem st_blk (hgd : o.guard = none) (ty : TypeId) (x y : Operand) (ho : o.op = .store ty x y) (g : Nat) (hx : a.eval x = .pointer (some ⟨g, 0, none⟩)) {f : Array Value} (hy : a.eval y = .agg f) {t : TypeId} {old : Array Value} (hold : old.size = f.size) (hg : Blk w g t old)
    (hi : (P.info? ty).map (·.size) = some f.size) (h1 : f.all (·.oneCell') = true) (h : wpList P ops Q rest (a.put o.dst undef) (w.setRow g f)) : wpList P ops Q (o :: rest) a w :=
  wpList_store_row hgd ty x y ho g f hx hy t old hg hi hold h1 h
end
theorem Flat.all1 {ks : List Kd} {cs : Array Value} (h : Flat ks cs) : cs.all (·.oneCell') = true := Array.all_eq_true_iff_forall_mem.2 h.one
theorem Flat.set_ {ks : List Kd} {cs : Array Value} (h : Flat ks cs) (i : Nat) {k : Kd} (hk : ks[i]? = some k) {v : Value} (hv : k.fits v) : Flat ks (cs.setIfInBounds i v) := by
  refine ⟨by simp [h.1], fun j k' hj => ?_⟩
  by_cases e : i = j
  · subst e
    rw [hk] at hj
    injection hj with hj
    subst hj
    have hlt : i < cs.size := by rw [h.1]; exact (List.getElem?_eq_some_iff.1 hk).1
    exact ⟨v, by simp [hlt], hv⟩
  · obtain ⟨u, hu, hf⟩ := h.2 j k' hj
    exact ⟨u, by rw [Array.getElem?_setIfInBounds_ne e]; exact hu, hf⟩
theorem Flat.one' {ks : List Kd} {cs : Array Value} (h : Flat ks cs) : ∀ u ∈ cs.toList, u.oneCell' = true := fun u hu => h.one u (by simpa using hu)
theorem wf_any (n : Int) (h : -9223372036854775808 ≤ n ∧ n ≤ 9223372036854775807) : (Lit.int .i64 n).wf = true := by
  simp only [Lit.wf, IntKind.min, IntKind.max, IntKind.signed, IntKind.bits]
  simp
  omega
theorem wrap64_bd (n : Int) : -9223372036854775808 ≤ wrap64 n ∧ wrap64 n ≤ 9223372036854775807 := by unfold wrap64; omega
theorem gi_set_ne (cs : Array Value) {i j : Nat} (h : i ≠ j) (v : Value) : gi (cs.setIfInBounds i v) j = gi cs j := by unfold gi; rw [Array.getElem?_setIfInBounds_ne h]
theorem gs_set_ne (cs : Array Value) {i j : Nat} (h : i ≠ j) (v : Value) : gs (cs.setIfInBounds i v) j = gs cs j := by unfold gs; rw [Array.getElem?_setIfInBounds_ne h]
theorem gb_set_ne (cs : Array Value) {i j : Nat} (h : i ≠ j) (v : Value) : gb (cs.setIfInBounds i v) j = gb cs j := by unfold gb; rw [Array.getElem?_setIfInBounds_ne h]
theorem gi_set (cs : Array Value) {i : Nat} (h : i < cs.size) (k : IntKind) (n : Int) : gi (cs.setIfInBounds i (.int k n)) i = n := by unfold gi; simp [h]

/-! ### Cells that are written out: their kinds by a check -/
def Kd.ok : Kd → Value → Bool
  | .int k, .int k' n => decide (k = k') && (Lit.int k n).wf
  | .str, .string s => decide (s.size ≤ maxLen)
  | .bool, .bool _ => true
  | .other, v => v.oneCell'
  | _, _ => false
theorem Kd.fits_of_ok {k : Kd} {v : Value} (h : k.ok v = true) : k.fits v := by
  unfold Kd.ok at h
  split at h
  · simp only [Bool.and_eq_true, decide_eq_true_eq] at h
    obtain ⟨rfl, h⟩ := h
    exact ⟨_, rfl, h⟩
  · exact ⟨_, rfl, by simpa using h⟩
  · exact ⟨_, rfl⟩
  · exact h
  · cases h
def flatB : List Kd → List Value → Bool
  | [], [] => true
  | k :: ks, v :: vs => k.ok v && flatB ks vs
  | _, _ => false
theorem flatB_spec : ∀ (ks : List Kd) (vs : List Value), flatB ks vs = true → vs.length = ks.length ∧ ∀ (i : Nat) (k : Kd), ks[i]? = some k → ∃ v, vs[i]? = some v ∧ k.fits v
  | [], [], _ => ⟨rfl, fun i k h => by simp at h⟩
  | [], _ :: _, h => by cases h
  | _ :: _, [], h => by cases h
  | k :: ks, v :: vs, h => by
    simp only [flatB, Bool.and_eq_true] at h
    obtain ⟨h1, h2⟩ := flatB_spec ks vs h.2
    refine ⟨by simp [h1], fun i k' hk => ?_⟩
    cases i with
    | zero => simp only [List.getElem?_cons_zero, Option.some.injEq] at hk; subst hk; exact ⟨v, rfl, Kd.fits_of_ok h.1⟩
    | succ i => simp only [List.getElem?_cons_succ] at hk; exact h2 i k' hk
theorem Flat.ofB {ks : List Kd} {cs : Array Value} (h : flatB ks cs.toList = true) : Flat ks cs := by
  obtain ⟨h1, h2⟩ := flatB_spec ks cs.toList h
  exact ⟨by simpa using h1, fun i k hk => by obtain ⟨v, hv, hf⟩ := h2 i k hk; exact ⟨v, by simpa using hv, hf⟩⟩
/-! ### Lists of structs in memory -/
/-- The cells of the structs, one behind the other. -/
def cat (fs : List (Array Value)) : List Value := (fs.map Array.toList).flatten
theorem cat_append (a b : List (Array Value)) : cat (a ++ b) = cat a ++ cat b := by simp [cat]
theorem cat_one (f : Array Value) : cat [f] = f.toList := by simp [cat]
theorem cat_length {size : Nat} : ∀ (fs : List (Array Value)), (∀ f ∈ fs, f.size = size) → (cat fs).length = fs.length * size
  | [], _ => by simp [cat]
  | f :: r, h => by
    have h1 := cat_length r (fun x hx => h x (List.mem_cons_of_mem _ hx))
    have h2 := h f List.mem_cons_self
    have e : cat (f :: r) = f.toList ++ cat r := rfl
    rw [e, List.length_append, h1, Array.length_toList, h2, List.length_cons, Nat.add_mul, Nat.one_mul, Nat.add_comm]
theorem cat_get {size : Nat} : ∀ (fs : List (Array Value)), (∀ f ∈ fs, f.size = size) → ∀ (j : Nat) (f : Array Value), fs[j]? = some f → ∀ i, i < size → (cat fs)[j * size + i]? = f[i]?
  | [], _, j, f, h, _, _ => by simp at h
  | g :: r, h, 0, f, hf, i, hi => by
    have e : cat (g :: r) = g.toList ++ cat r := rfl
    have hg := h g List.mem_cons_self
    simp only [List.getElem?_cons_zero, Option.some.injEq] at hf
    subst hf
    rw [e, Nat.zero_mul, Nat.zero_add, List.getElem?_append_left (by simp [hg]; exact hi)]
    simp
  | g :: r, h, j + 1, f, hf, i, hi => by
    have e : cat (g :: r) = g.toList ++ cat r := rfl
    have hg := h g List.mem_cons_self
    simp only [List.getElem?_cons_succ] at hf
    have ih := cat_get r (fun x hx => h x (List.mem_cons_of_mem _ hx)) j f hf i hi
    rw [e, List.getElem?_append_right (by simp [hg, Nat.add_mul]; omega), Array.length_toList, hg]
    rw [show (j + 1) * size + i - size = j * size + i by rw [Nat.add_mul]; omega]
    exact ih
/-- The slice at A holds the structs fs, below block B. -/
def Lst (w : World) (B size : Nat) (A : Option Addr) (fs : List (Array Value)) : Prop :=
  (∀ f ∈ fs, f.size = size) ∧ (fs ≠ [] → ∃ b o, A = some ⟨b, o, none⟩ ∧ b < B ∧ ∀ (j : Nat) (f : Array Value), fs[j]? = some f → w.rangeAt b (o + j * size) f.toList)
theorem rangeAt_keep {w w' : World} {b o : Nat} {cs : List Value} (h : w.rangeAt b o cs) (hk : w'.heap[b]? = w.heap[b]?) : w'.rangeAt b o cs := fun j v hv =>
  (World.cell?_of_block (w := w) (a := ⟨b, o + j, none⟩) hk).trans (h j v hv)
theorem Lst.below {w w' : World} {B size : Nat} {A : Option Addr} {fs : List (Array Value)} (h : Lst w B size A fs) (hb : Below B w w') : Lst w' B size A fs :=
  ⟨h.1, fun hn => by
    obtain ⟨b, o, rfl, hB, hr⟩ := h.2 hn
    exact ⟨b, o, rfl, hB, fun j f hf => rangeAt_keep (hr j f hf) (hb.block b hB)⟩⟩
theorem Lst.more {w : World} {B B' size : Nat} {A : Option Addr} {fs : List (Array Value)} (h : Lst w B size A fs) (hB : B ≤ B') : Lst w B' size A fs :=
  ⟨h.1, fun hn => by
    obtain ⟨b, o, rfl, hlt, hr⟩ := h.2 hn
    exact ⟨b, o, rfl, by omega, hr⟩⟩
theorem Lst.of_own {w : World} {base size n c : Nat} {e : TypeId} {A : Option Addr} {fs : List (Array Value)} (hs : ∀ f ∈ fs, f.size = size) (hl : fs.length = n) (h : w.ownsRow base e size (.slice A n c) n (cat fs)) : Lst w w.heap.size size A fs := by
  refine ⟨hs, fun hn => ?_⟩
  have hpos : 0 < n := by rw [← hl]; exact List.length_pos_iff.2 hn
  rcases h.2 with ⟨_, h0⟩ | ⟨g, cap, cur, hv, hb, hg, _, _, _, ht⟩
  · omega
  · injection hv with hA _ _
    subst hA
    refine ⟨g, 0, rfl, (Array.getElem?_eq_some_iff.1 hg).1, fun j f hf i v hv => ?_⟩
    rw [cell_of_row w g _ cur e (0, 0) hg]
    have hfs := hs f (List.mem_of_getElem? hf)
    have hi : i < size := by rw [← hfs]; have := (List.getElem?_eq_some_iff.1 hv).1; simpa using this
    have hc := cat_get fs hs j f hf i hi
    rw [← ht, List.getElem?_take] at hc
    have hv' : f[i]? = some v := by simpa using hv
    rw [hv'] at hc
    split at hc
    · simpa [Nat.zero_add] using hc
    · cases hc
/-- Structs that lie in a block known whole, from its head. -/
theorem range_of_cat {w : World} {g size : Nat} {t : TypeId} {cs : Array Value} {fs : List (Array Value)} (hg : Blk w g t cs) (hc : cs.toList = cat fs) (hs : ∀ f ∈ fs, f.size = size) :
    ∀ (j : Nat) (f : Array Value), fs[j]? = some f → w.rangeAt g (0 + j * size) f.toList := fun j f hf i v hv => by
  have hfs := hs f (List.mem_of_getElem? hf)
  have hi : i < size := by rw [← hfs]; have := (List.getElem?_eq_some_iff.1 hv).1; simpa using this
  have h := cat_get fs hs j f hf i hi
  rw [hg.cell, Nat.zero_add, ← Array.getElem?_toList, hc, h]
  simpa using hv
/-! ### An owned row stays owned -/
section
variable {w w' : World} {base : Nat} {e : TypeId} {size : Nat} {v : Value} {n : Nat} {xs : List Value}
theorem own_below (h : w.ownsRow base e size v n xs) (hb : Below w.heap.size w w') : w'.ownsRow base e size v n xs := by
  refine ⟨h.1, ?_⟩
  rcases h.2 with hn | ⟨g, cap, cur, rfl, hbg, hg, r⟩
  · exact .inl hn
  · exact .inr ⟨g, cap, cur, rfl, hbg, (hb.block g (Array.getElem?_eq_some_iff.1 hg).1).trans hg, r⟩
theorem own_set (h : w.ownsRow base e size v n xs) {b o : Nat} {s : Option Nat} (hp : ∀ g, v.ownBlock = some g → g ≠ b) (u : Value) : (w.setCell ⟨b, o, s⟩ u).ownsRow base e size v n xs := by
  refine ⟨h.1, ?_⟩
  rcases h.2 with hn | ⟨g, cap, cur, rfl, hbg, hg, r⟩
  · exact .inl hn
  · exact .inr ⟨g, cap, cur, rfl, hbg, (Below.heap_setCell w ⟨b, o, s⟩ u g (hp g rfl)).trans hg, r⟩
theorem own_row (h : w.ownsRow base e size v n xs) {k : Nat} (hp : ∀ g, v.ownBlock = some g → g ≠ k) (c : Array Value) : (w.setRow k c).ownsRow base e size v n xs := by
  refine ⟨h.1, ?_⟩
  rcases h.2 with hn | ⟨g, cap, cur, rfl, hbg, hg, r⟩
  · exact .inl hn
  · exact .inr ⟨g, cap, cur, rfl, hbg, (setRow_other w k g c (hp g rfl)).trans hg, r⟩
theorem own_drew (h : w.ownsRow base e size v n xs) (k : Nat) : (w.drewN k).ownsRow base e size v n xs := h
theorem own_drew1 (h : w.ownsRow base e size v n xs) : w.drew.ownsRow base e size v n xs := h
theorem own_more {base' : Nat} (h : w.ownsRow base e size v n xs) (hb : base' ≤ base) : w.ownsRow base' e size v n xs := by
  refine ⟨h.1, ?_⟩
  rcases h.2 with hn | ⟨g, cap, cur, rfl, hbg, r⟩
  · exact .inl hn
  · exact .inr ⟨g, cap, cur, rfl, Nat.le_trans hb hbg, r⟩
end
/-- The cells of a new block of one struct, as an append asks for them. -/
theorem news_new (w : World) (f : Array Value) (e : TypeId) (g : Nat) (hgs : w.heap.size = g) : ∀ (j : Nat) (u : Value), f.toList[j]? = some u → (w.alloc (.cells f e)).cell? ((⟨g, 0, none⟩ : Addr).add j) = some u := fun j u hu => by
  subst hgs
  have ha : (⟨w.heap.size, 0, none⟩ : Addr).add j = ⟨w.heap.size, j, none⟩ := by unfold Addr.add; split <;> simp_all
  rw [ha, cell_of_row _ _ j f e (0, 0) (heap_alloc_new w _)]
  simpa using hu
end Go.Proofs.Ytkciiamllegclaa

/- Plain words for the proofs of this seat: cells of structs by index, a block that is known whole, worlds that are later than another one. No program in sight. -/
import Derived.WalkKit
import Derived.ProofKit
import Derived.OpenShut
import Derived.Outline
import Derived.Deep.QuietTactic
import Derived.BigQuiet
import Derived.WalkLawsBesides
import Derived.Deep.MidRow
import Derived.Deep.AppendLies
import Derived.Lib.Hide
namespace Go.Proofs.Ytkciiamllegclaa
open Go.ChangeShapes Go.WideShapes Go.ChangeAt Go.RowKit

/-! ### max and min, without a case split -/
theorem run_max_i {P : Program} {w : World} (ts : Array TypeId) (t : TypeId) (k k' : IntKind) (x y : Int) : (Builtin.max_ ts t #[.int k x, .int k' y]).run P w = .ok (.int k (max x y)) w := by
  rw [run_max_int2]; congr 2; omega
theorem run_min_i {P : Program} {w : World} (ts : Array TypeId) (t : TypeId) (k k' : IntKind) (x y : Int) : (Builtin.min_ ts t #[.int k x, .int k' y]).run P w = .ok (.int k (min x y)) w := by
  rw [run_min_int2]; congr 2; omega

/-! ### What a world keeps of an older one -/
theorem bcell {B : Nat} {W w1 : World} (hb : Below B W w1) : (∀ b o, b < B → w1.cell? ⟨b, o, none⟩ = W.cell? ⟨b, o, none⟩) ∧ (∀ b o, b < B → w1.frozen? ⟨b, o, none⟩ = W.frozen? ⟨b, o, none⟩) :=
  ⟨fun b o h => hb.cell (p := ⟨b, o, none⟩) h, fun b o h => hb.frozen (p := ⟨b, o, none⟩) h⟩

theorem size_setCell (w : World) (p : Addr) (v : Value) : (w.setCell p v).heap.size = w.heap.size := by simp [World.setCell]
theorem size_drewN (w : World) (n : Nat) : (w.drewN n).heap.size = w.heap.size := rfl
theorem below_set {B : Nat} {a w : World} (h : Below B a w) {b o : Nat} {s : Option Nat} (hp : B ≤ b) (u : Value) : Below B a (w.setCell ⟨b, o, s⟩ u) := h.setCell (p := ⟨b, o, s⟩) hp u
theorem below_row {B g : Nat} {w0 w : World} (hb : Below B w0 w) (hBg : B ≤ g) (cs : Array Value) : Below B w0 (w.setRow g cs) :=
  hb.trans ⟨rfl, rfl, rfl, by simp, fun k hk => setRow_other w g k cs (by omega)⟩
theorem below_drewN {B : Nat} {a w : World} (h : Below B a w) (n : Nat) : Below B a (w.drewN n) := ⟨h.os, h.tape, h.output, h.size, h.block⟩

theorem ret_int {k : IntKind} {a b : Int} (h : a = b) : Ending.returned (.int k a) = Ending.returned (.int k b) := by rw [h]
theorem ret_bool {a b : Bool} (h : a = b) : Ending.returned (.bool a) = Ending.returned (.bool b) := by rw [h]

/-! ### A block that is known whole -/
def Blk (w : World) (g : Nat) (t : TypeId) (cs : Array Value) : Prop := w.heap[g]? = some (.cells cs t (0, 0))
section
variable {w w' : World} {g : Nat} {t : TypeId} {cs : Array Value}
theorem Blk.lt (h : Blk w g t cs) : g < w.heap.size := by
  rcases Nat.lt_or_ge g w.heap.size with hlt | hge
  · exact hlt
  · unfold Blk at h; rw [Array.getElem?_eq_none hge] at h; cases h
theorem Blk.cell (h : Blk w g t cs) (i : Nat) : w.cell? ⟨g, i, none⟩ = cs[i]? := cell_of_row w g i cs t (0, 0) h
theorem Blk.frozen (h : Blk w g t cs) (i : Nat) : w.frozen? ⟨g, i, none⟩ = false := by
  unfold Blk at h
  simp [World.frozen?, h]
theorem Blk.new (w : World) (t : TypeId) (cs : Array Value) : Blk (w.alloc (.cells cs t)) w.heap.size t cs := heap_alloc_new w _
theorem Blk.drew (h : Blk w g t cs) : Blk w.drew g t cs := h
theorem Blk.drewN (h : Blk w g t cs) (n : Nat) : Blk (w.drewN n) g t cs := h
theorem Blk.alloc (h : Blk w g t cs) (o : Obj) : Blk (w.alloc o) g t cs := (Below.heap_alloc w o g h.lt).trans h
theorem Blk.set_ (h : Blk w g t cs) (i : Nat) (u : Value) : Blk (w.setCell ⟨g, i, none⟩ u) g t (cs.setIfInBounds i u) := by
  unfold Blk at h ⊢
  simp [World.setCell, Array.getElem?_modify, h]
theorem Blk.set2_ {i : Nat} {v : Value} (h : Blk w g t (cs.setIfInBounds i v)) (u : Value) : Blk (w.setCell ⟨g, i, none⟩ u) g t (cs.setIfInBounds i u) := by
  have e : (cs.setIfInBounds i v).setIfInBounds i u = cs.setIfInBounds i u := by
    apply Array.ext_getElem?
    intro j
    simp only [Array.getElem?_setIfInBounds]
    split <;> simp
  exact e ▸ h.set_ i u
theorem Blk.far (h : Blk w g t cs) {p : Addr} (hp : g ≠ p.block) (u : Value) : Blk (w.setCell p u) g t cs := (Below.heap_setCell w p u g hp).trans h
theorem Blk.off_ (h : Blk w g t cs) {b o : Nat} {s : Option Nat} (hp : g ≠ b) (u : Value) : Blk (w.setCell ⟨b, o, s⟩ u) g t cs := h.far (p := ⟨b, o, s⟩) hp u
theorem Blk.below {B : Nat} (h : Blk w g t cs) (hb : Below B w w') (hg : g < B) : Blk w' g t cs := (hb.block g hg).trans h
theorem Blk.below' (h : Blk w g t cs) (hb : Below w.heap.size w w') : Blk w' g t cs := h.below hb h.lt
theorem Blk.grown {row : Option Nat} (h : Blk w g t cs) (hb : w.grownBy w' row) (hg : some g ≠ row) : Blk w' g t cs := (hb.block g h.lt hg).trans h
theorem Blk.row (h : Blk w g t cs) (c : Array Value) : Blk (w.setRow g c) g t c := setRow_heap w g cs c t (0, 0) h
theorem Blk.farRow (h : Blk w g t cs) {k : Nat} (hk : g ≠ k) (c : Array Value) : Blk (w.setRow k c) g t cs := (setRow_other w k g c hk).trans h
theorem Blk.ne_ {g' : Nat} {t' : TypeId} {cs' : Array Value} (h : Blk w g t cs) (h' : Blk w g' t' cs') (hne : t ≠ t') : g ≠ g' := by
  rintro rfl
  unfold Blk at h h'
  rw [h] at h'
  injection h' with h'
  injection h' with _ ht
  exact hne ht
theorem Blk.range (h : Blk w g t cs) (o n : Nat) : w.rangeAt g o (cs.extract o (o + n)).toList := World.rangeAt_of_block h o n
end

/-! ### The blocks that a call has just made -/
theorem nb1_1 (w : World) {t : TypeId} {cs cs' : Array Value}  (h : cs' = cs) : Blk (w.alloc (.cells cs t)) (w.heap.size) t cs' := by
  subst h
  exact Blk.new _ _ _
theorem bl1 (w : World) (o1 : Obj) : Below w.heap.size w (w.alloc o1) := (Below.refl _ _).alloc (Nat.le_refl _) _
theorem nb2_1 (w : World) {t : TypeId} {cs cs' : Array Value} (o2 : Obj) (h : cs' = cs) : Blk ((w.alloc (.cells cs t)).alloc o2) (w.heap.size) t cs' := by
  subst h
  exact (Blk.new _ _ _).alloc o2
theorem nb2_2 (w : World) {t : TypeId} {cs cs' : Array Value} (o1 : Obj) (h : cs' = cs) : Blk ((w.alloc o1).alloc (.cells cs t)) (w.heap.size + 1) t cs' := by
  subst h
  have e : (w.alloc o1).heap.size = w.heap.size + 1 := by simp
  have b : Blk ((w.alloc o1).alloc (.cells cs' t)) (w.heap.size + 1) t cs' := by rw [← e]; exact Blk.new _ _ _
  exact b
theorem bl2 (w : World) (o1 o2 : Obj) : Below w.heap.size w ((w.alloc o1).alloc o2) := ((Below.refl _ _).alloc (Nat.le_refl _) _).alloc (by simp <;> omega) _
theorem nb3_1 (w : World) {t : TypeId} {cs cs' : Array Value} (o2 o3 : Obj) (h : cs' = cs) : Blk (((w.alloc (.cells cs t)).alloc o2).alloc o3) (w.heap.size) t cs' := by
  subst h
  exact ((Blk.new _ _ _).alloc o2).alloc o3
theorem nb3_2 (w : World) {t : TypeId} {cs cs' : Array Value} (o1 o3 : Obj) (h : cs' = cs) : Blk (((w.alloc o1).alloc (.cells cs t)).alloc o3) (w.heap.size + 1) t cs' := by
  subst h
  have e : (w.alloc o1).heap.size = w.heap.size + 1 := by simp
  have b : Blk ((w.alloc o1).alloc (.cells cs' t)) (w.heap.size + 1) t cs' := by rw [← e]; exact Blk.new _ _ _
  exact (b).alloc o3
theorem nb3_3 (w : World) {t : TypeId} {cs cs' : Array Value} (o1 o2 : Obj) (h : cs' = cs) : Blk (((w.alloc o1).alloc o2).alloc (.cells cs t)) (w.heap.size + 1 + 1) t cs' := by
  subst h
  have e : ((w.alloc o1).alloc o2).heap.size = w.heap.size + 1 + 1 := by simp
  have b : Blk (((w.alloc o1).alloc o2).alloc (.cells cs' t)) (w.heap.size + 1 + 1) t cs' := by rw [← e]; exact Blk.new _ _ _
  exact b
theorem bl3 (w : World) (o1 o2 o3 : Obj) : Below w.heap.size w (((w.alloc o1).alloc o2).alloc o3) := (((Below.refl _ _).alloc (Nat.le_refl _) _).alloc (by simp <;> omega) _).alloc (by simp <;> omega) _
theorem nb4_1 (w : World) {t : TypeId} {cs cs' : Array Value} (o2 o3 o4 : Obj) (h : cs' = cs) : Blk ((((w.alloc (.cells cs t)).alloc o2).alloc o3).alloc o4) (w.heap.size) t cs' := by
  subst h
  exact (((Blk.new _ _ _).alloc o2).alloc o3).alloc o4
theorem nb4_2 (w : World) {t : TypeId} {cs cs' : Array Value} (o1 o3 o4 : Obj) (h : cs' = cs) : Blk ((((w.alloc o1).alloc (.cells cs t)).alloc o3).alloc o4) (w.heap.size + 1) t cs' := by
  subst h
  have e : (w.alloc o1).heap.size = w.heap.size + 1 := by simp
  have b : Blk ((w.alloc o1).alloc (.cells cs' t)) (w.heap.size + 1) t cs' := by rw [← e]; exact Blk.new _ _ _
  exact ((b).alloc o3).alloc o4
theorem nb4_3 (w : World) {t : TypeId} {cs cs' : Array Value} (o1 o2 o4 : Obj) (h : cs' = cs) : Blk ((((w.alloc o1).alloc o2).alloc (.cells cs t)).alloc o4) (w.heap.size + 1 + 1) t cs' := by
  subst h
  have e : ((w.alloc o1).alloc o2).heap.size = w.heap.size + 1 + 1 := by simp
  have b : Blk (((w.alloc o1).alloc o2).alloc (.cells cs' t)) (w.heap.size + 1 + 1) t cs' := by rw [← e]; exact Blk.new _ _ _
  exact (b).alloc o4
theorem nb4_4 (w : World) {t : TypeId} {cs cs' : Array Value} (o1 o2 o3 : Obj) (h : cs' = cs) : Blk ((((w.alloc o1).alloc o2).alloc o3).alloc (.cells cs t)) (w.heap.size + 1 + 1 + 1) t cs' := by
  subst h
  have e : (((w.alloc o1).alloc o2).alloc o3).heap.size = w.heap.size + 1 + 1 + 1 := by simp
  have b : Blk ((((w.alloc o1).alloc o2).alloc o3).alloc (.cells cs' t)) (w.heap.size + 1 + 1 + 1) t cs' := by rw [← e]; exact Blk.new _ _ _
  exact b
theorem bl4 (w : World) (o1 o2 o3 o4 : Obj) : Below w.heap.size w ((((w.alloc o1).alloc o2).alloc o3).alloc o4) := ((((Below.refl _ _).alloc (Nat.le_refl _) _).alloc (by simp <;> omega) _).alloc (by simp <;> omega) _).alloc (by simp <;> omega) _
theorem nb5_1 (w : World) {t : TypeId} {cs cs' : Array Value} (o2 o3 o4 o5 : Obj) (h : cs' = cs) : Blk (((((w.alloc (.cells cs t)).alloc o2).alloc o3).alloc o4).alloc o5) (w.heap.size) t cs' := by
  subst h
  exact ((((Blk.new _ _ _).alloc o2).alloc o3).alloc o4).alloc o5
theorem nb5_2 (w : World) {t : TypeId} {cs cs' : Array Value} (o1 o3 o4 o5 : Obj) (h : cs' = cs) : Blk (((((w.alloc o1).alloc (.cells cs t)).alloc o3).alloc o4).alloc o5) (w.heap.size + 1) t cs' := by
  subst h
  have e : (w.alloc o1).heap.size = w.heap.size + 1 := by simp
  have b : Blk ((w.alloc o1).alloc (.cells cs' t)) (w.heap.size + 1) t cs' := by rw [← e]; exact Blk.new _ _ _
  exact (((b).alloc o3).alloc o4).alloc o5
theorem nb5_3 (w : World) {t : TypeId} {cs cs' : Array Value} (o1 o2 o4 o5 : Obj) (h : cs' = cs) : Blk (((((w.alloc o1).alloc o2).alloc (.cells cs t)).alloc o4).alloc o5) (w.heap.size + 1 + 1) t cs' := by
  subst h
  have e : ((w.alloc o1).alloc o2).heap.size = w.heap.size + 1 + 1 := by simp
  have b : Blk (((w.alloc o1).alloc o2).alloc (.cells cs' t)) (w.heap.size + 1 + 1) t cs' := by rw [← e]; exact Blk.new _ _ _
  exact ((b).alloc o4).alloc o5
theorem nb5_4 (w : World) {t : TypeId} {cs cs' : Array Value} (o1 o2 o3 o5 : Obj) (h : cs' = cs) : Blk (((((w.alloc o1).alloc o2).alloc o3).alloc (.cells cs t)).alloc o5) (w.heap.size + 1 + 1 + 1) t cs' := by
  subst h
  have e : (((w.alloc o1).alloc o2).alloc o3).heap.size = w.heap.size + 1 + 1 + 1 := by simp
  have b : Blk ((((w.alloc o1).alloc o2).alloc o3).alloc (.cells cs' t)) (w.heap.size + 1 + 1 + 1) t cs' := by rw [← e]; exact Blk.new _ _ _
  exact (b).alloc o5
theorem nb5_5 (w : World) {t : TypeId} {cs cs' : Array Value} (o1 o2 o3 o4 : Obj) (h : cs' = cs) : Blk (((((w.alloc o1).alloc o2).alloc o3).alloc o4).alloc (.cells cs t)) (w.heap.size + 1 + 1 + 1 + 1) t cs' := by
  subst h
  have e : ((((w.alloc o1).alloc o2).alloc o3).alloc o4).heap.size = w.heap.size + 1 + 1 + 1 + 1 := by simp
  have b : Blk (((((w.alloc o1).alloc o2).alloc o3).alloc o4).alloc (.cells cs' t)) (w.heap.size + 1 + 1 + 1 + 1) t cs' := by rw [← e]; exact Blk.new _ _ _
  exact b
theorem bl5 (w : World) (o1 o2 o3 o4 o5 : Obj) : Below w.heap.size w (((((w.alloc o1).alloc o2).alloc o3).alloc o4).alloc o5) := (((((Below.refl _ _).alloc (Nat.le_refl _) _).alloc (by simp <;> omega) _).alloc (by simp <;> omega) _).alloc (by simp <;> omega) _).alloc (by simp <;> omega) _
theorem nb6_1 (w : World) {t : TypeId} {cs cs' : Array Value} (o2 o3 o4 o5 o6 : Obj) (h : cs' = cs) : Blk ((((((w.alloc (.cells cs t)).alloc o2).alloc o3).alloc o4).alloc o5).alloc o6) (w.heap.size) t cs' := by
  subst h
  exact (((((Blk.new _ _ _).alloc o2).alloc o3).alloc o4).alloc o5).alloc o6
theorem nb6_2 (w : World) {t : TypeId} {cs cs' : Array Value} (o1 o3 o4 o5 o6 : Obj) (h : cs' = cs) : Blk ((((((w.alloc o1).alloc (.cells cs t)).alloc o3).alloc o4).alloc o5).alloc o6) (w.heap.size + 1) t cs' := by
  subst h
  have e : (w.alloc o1).heap.size = w.heap.size + 1 := by simp
  have b : Blk ((w.alloc o1).alloc (.cells cs' t)) (w.heap.size + 1) t cs' := by rw [← e]; exact Blk.new _ _ _
  exact ((((b).alloc o3).alloc o4).alloc o5).alloc o6
theorem nb6_3 (w : World) {t : TypeId} {cs cs' : Array Value} (o1 o2 o4 o5 o6 : Obj) (h : cs' = cs) : Blk ((((((w.alloc o1).alloc o2).alloc (.cells cs t)).alloc o4).alloc o5).alloc o6) (w.heap.size + 1 + 1) t cs' := by
  subst h
  have e : ((w.alloc o1).alloc o2).heap.size = w.heap.size + 1 + 1 := by simp
  have b : Blk (((w.alloc o1).alloc o2).alloc (.cells cs' t)) (w.heap.size + 1 + 1) t cs' := by rw [← e]; exact Blk.new _ _ _
  exact (((b).alloc o4).alloc o5).alloc o6
theorem nb6_4 (w : World) {t : TypeId} {cs cs' : Array Value} (o1 o2 o3 o5 o6 : Obj) (h : cs' = cs) : Blk ((((((w.alloc o1).alloc o2).alloc o3).alloc (.cells cs t)).alloc o5).alloc o6) (w.heap.size + 1 + 1 + 1) t cs' := by
  subst h
  have e : (((w.alloc o1).alloc o2).alloc o3).heap.size = w.heap.size + 1 + 1 + 1 := by simp
  have b : Blk ((((w.alloc o1).alloc o2).alloc o3).alloc (.cells cs' t)) (w.heap.size + 1 + 1 + 1) t cs' := by rw [← e]; exact Blk.new _ _ _
  exact ((b).alloc o5).alloc o6
theorem nb6_5 (w : World) {t : TypeId} {cs cs' : Array Value} (o1 o2 o3 o4 o6 : Obj) (h : cs' = cs) : Blk ((((((w.alloc o1).alloc o2).alloc o3).alloc o4).alloc (.cells cs t)).alloc o6) (w.heap.size + 1 + 1 + 1 + 1) t cs' := by
  subst h
  have e : ((((w.alloc o1).alloc o2).alloc o3).alloc o4).heap.size = w.heap.size + 1 + 1 + 1 + 1 := by simp
  have b : Blk (((((w.alloc o1).alloc o2).alloc o3).alloc o4).alloc (.cells cs' t)) (w.heap.size + 1 + 1 + 1 + 1) t cs' := by rw [← e]; exact Blk.new _ _ _
  exact (b).alloc o6
theorem nb6_6 (w : World) {t : TypeId} {cs cs' : Array Value} (o1 o2 o3 o4 o5 : Obj) (h : cs' = cs) : Blk ((((((w.alloc o1).alloc o2).alloc o3).alloc o4).alloc o5).alloc (.cells cs t)) (w.heap.size + 1 + 1 + 1 + 1 + 1) t cs' := by
  subst h
  have e : (((((w.alloc o1).alloc o2).alloc o3).alloc o4).alloc o5).heap.size = w.heap.size + 1 + 1 + 1 + 1 + 1 := by simp
  have b : Blk ((((((w.alloc o1).alloc o2).alloc o3).alloc o4).alloc o5).alloc (.cells cs' t)) (w.heap.size + 1 + 1 + 1 + 1 + 1) t cs' := by rw [← e]; exact Blk.new _ _ _
  exact b
theorem bl6 (w : World) (o1 o2 o3 o4 o5 o6 : Obj) : Below w.heap.size w ((((((w.alloc o1).alloc o2).alloc o3).alloc o4).alloc o5).alloc o6) := ((((((Below.refl _ _).alloc (Nat.le_refl _) _).alloc (by simp <;> omega) _).alloc (by simp <;> omega) _).alloc (by simp <;> omega) _).alloc (by simp <;> omega) _).alloc (by simp <;> omega) _

/-! ### Cells by index -/
def gi (cs : Array Value) (i : Nat) : Int := match cs[i]? with | some (.int _ n) => n | _ => 0
def gs (cs : Array Value) (i : Nat) : ByteArray := match cs[i]? with | some (.string s) => s | _ => ByteArray.empty
def gb (cs : Array Value) (i : Nat) : Bool := match cs[i]? with | some (.bool b) => b | _ => false
theorem gi_of {cs : Array Value} {i : Nat} {k : IntKind} {n : Int} (h : cs[i]? = some (.int k n)) : gi cs i = n := by simp [gi, h]
theorem gs_of {cs : Array Value} {i : Nat} {s : ByteArray} (h : cs[i]? = some (.string s)) : gs cs i = s := by simp [gs, h]
theorem gb_of {cs : Array Value} {i : Nat} {b : Bool} (h : cs[i]? = some (.bool b)) : gb cs i = b := by simp [gb, h]

/-- What kind of value a cell holds. -/
inductive Kd where
  | int (k : IntKind)
  | str
  | bool
  | other
def Kd.fits : Kd → Value → Prop
  | .int k, v => ∃ n, v = .int k n ∧ (Lit.int k n).wf = true
  | .str, v => ∃ s : ByteArray, v = .string s ∧ s.size ≤ maxLen
  | .bool, v => ∃ b, v = .bool b
  | .other, v => v.oneCell' = true
/-- The cells cs hold values of the kinds ks. -/
def Flat (ks : List Kd) (cs : Array Value) : Prop := cs.size = ks.length ∧ ∀ (i : Nat) (k : Kd), ks[i]? = some k → ∃ v, cs[i]? = some v ∧ k.fits v
theorem Flat.int {ks : List Kd} {cs : Array Value} (h : Flat ks cs) (i : Nat) {k : IntKind} (hk : ks[i]? = some (.int k)) : cs[i]? = some (.int k (gi cs i)) := by
  obtain ⟨v, hv, n, rfl, _⟩ := h.2 i _ hk
  rw [hv, gi_of hv]
theorem Flat.wf {ks : List Kd} {cs : Array Value} (h : Flat ks cs) (i : Nat) {k : IntKind} (hk : ks[i]? = some (.int k)) : (Lit.int k (gi cs i)).wf = true := by
  obtain ⟨v, hv, n, rfl, hn⟩ := h.2 i _ hk
  rw [gi_of hv]; exact hn
theorem Flat.str {ks : List Kd} {cs : Array Value} (h : Flat ks cs) (i : Nat) (hk : ks[i]? = some .str) : cs[i]? = some (.string (gs cs i)) := by
  obtain ⟨v, hv, n, rfl, _⟩ := h.2 i _ hk
  rw [hv, gs_of hv]
theorem Flat.strlen {ks : List Kd} {cs : Array Value} (h : Flat ks cs) (i : Nat) (hk : ks[i]? = some .str) : (gs cs i).size ≤ maxLen := by
  obtain ⟨v, hv, n, rfl, hn⟩ := h.2 i _ hk
  rw [gs_of hv]; exact hn
theorem Flat.bool {ks : List Kd} {cs : Array Value} (h : Flat ks cs) (i : Nat) (hk : ks[i]? = some .bool) : cs[i]? = some (.bool (gb cs i)) := by
  obtain ⟨v, hv, n, rfl⟩ := h.2 i _ hk
  rw [hv, gb_of hv]
theorem Kd.one {k : Kd} {v : Value} (h : k.fits v) : v.oneCell' = true := by
  cases k with
  | int k => obtain ⟨n, rfl, _⟩ := h; rfl
  | str => obtain ⟨n, rfl, _⟩ := h; rfl
  | bool => obtain ⟨n, rfl⟩ := h; rfl
  | other => exact h
theorem Flat.one {ks : List Kd} {cs : Array Value} (h : Flat ks cs) : ∀ v ∈ cs, v.oneCell' = true := by
  intro v hv
  obtain ⟨i, hi, rfl⟩ := Array.mem_iff_getElem.1 hv
  have hk := List.getElem?_eq_getElem (l := ks) (i := i) (by rw [← h.1]; exact hi)
  obtain ⟨v, hv', hf⟩ := h.2 i _ hk
  rw [Array.getElem?_eq_getElem hi] at hv'
  injection hv' with hv'
  rw [hv']; exact Kd.one hf
/-- A part of flat cells is flat. -/
theorem Flat.extract {ks : List Kd} {cs : Array Value} (h : Flat ks cs) (a n : Nat) (hn : a + n ≤ ks.length) : Flat ((ks.drop a).take n) (cs.extract a (a + n)) := by
  refine ⟨by simp [h.1, hn]; try omega, fun i k hk => ?_⟩
  rw [List.getElem?_take] at hk
  split at hk
  · rename_i hi
    rw [List.getElem?_drop] at hk
    obtain ⟨v, hv, hf⟩ := h.2 _ _ hk
    refine ⟨v, ?_, hf⟩
    rw [Array.getElem?_extract, if_pos (by rw [h.1]; omega), hv]
  · cases hk
theorem gi_extract (cs : Array Value) (a b i : Nat) (h : i < b - a) (hb : b ≤ cs.size) : gi (cs.extract a b) i = gi cs (a + i) := by
  unfold gi; rw [Array.getElem?_extract, if_pos (by omega)]
theorem gs_extract (cs : Array Value) (a b i : Nat) (h : i < b - a) (hb : b ≤ cs.size) : gs (cs.extract a b) i = gs cs (a + i) := by
  unfold gs; rw [Array.getElem?_extract, if_pos (by omega)]
theorem gb_extract (cs : Array Value) (a b i : Nat) (h : i < b - a) (hb : b ≤ cs.size) : gb (cs.extract a b) i = gb cs (a + i) := by
  unfold gb; rw [Array.getElem?_extract, if_pos (by omega)]
/-- The kinds of the 53 cells of a style. -/
def styleKinds : List Kd := List.replicate 34 (.int .i64) ++ List.replicate 3 .str ++ List.replicate 6 (.int .i64) ++ [.bool] ++ List.replicate 6 (.int .i64) ++ [.bool] ++ List.replicate 2 (.int .i64)

/-! ### Numbers that fit -/
theorem bd_i64 {n : Int} (h : (Lit.int .i64 n).wf = true) : -9223372036854775808 ≤ n ∧ n ≤ 9223372036854775807 := by
  have := bounds_i64 h; omega
end Go.Proofs.Ytkciiamllegclaa

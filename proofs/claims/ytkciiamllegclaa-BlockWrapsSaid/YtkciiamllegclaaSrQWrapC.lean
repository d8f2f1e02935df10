/- Layer 17, plain: a stack in two parts is a stack of two blocks. No program in sight. -/
import Derived.Test.YtkciiamllegclaaSrQWrapB
namespace Go.Proofs.Ytkciiamllegclaa
set_option linter.all false
open Go.RowKit
def eO (s r : SS) : Int := if s.t = true then 0 else w64 (s.h + sumG (colM s.m r.b))
def RR (s r q : SS) : Prop := (r.t = true ∧ q = ⟨s.h, s.b, colM s.m r.m, s.t⟩) ∨ (r.t = false ∧ q = ⟨w64 (eO s r + r.h), if s.t = true then colM s.m r.b else s.b, r.m, false⟩)
theorem w64_w64 (a : Int) : w64 (w64 a) = w64 a := w64_eq (w64_mod a)
theorem w64_addl (a b : Int) : w64 (w64 a + b) = w64 (a + b) := w64_eq (by have := w64_mod a; omega)
theorem w64_addr (a b : Int) : w64 (a + w64 b) = w64 (a + b) := w64_eq (by have := w64_mod b; omega)
theorem w64_z : w64 0 = 0 := rfl
theorem eO_w (s r : SS) : w64 (eO s r) = eO s r := by
  unfold eO; split
  · rfl
  · exact w64_w64 _
theorem RR.step {s r q : SS} (h : RR s r q) (f : TBlockFragment) : RR s (stepS r f) (stepS q f) ∧ (f.Empty = false → yS q f = w64 (eO s (stepS r f) + yS r f)) := by
  rcases h with ⟨h1, rfl⟩ | ⟨h1, rfl⟩
  · cases he : f.Empty with
    | true => exact ⟨.inl ⟨by simp [stepS, he, h1], by simp [stepS, he, col_assoc]⟩, fun h => by cases h⟩
    | false =>
      have e1 : yS ⟨s.h, s.b, colM s.m r.m, s.t⟩ f = eO s (stepS r f) := by
        simp [yS, eO, stepS, he, h1, col_assoc]
      refine ⟨.inr ⟨by simp [stepS, he], ?_⟩, fun _ => ?_⟩
      · have e2 : (stepS r f).h = w64 (0 + f.H) := by simp [stepS, he, yS, h1]
        have e3 : stepS ⟨s.h, s.b, colM s.m r.m, s.t⟩ f = ⟨w64 (yS ⟨s.h, s.b, colM s.m r.m, s.t⟩ f + f.H), if s.t = true then colM (colM s.m r.m) f.Before else s.b, f.After, false⟩ := by simp [stepS, he]
        rw [e3, e1, e2, w64_addr]
        simp [stepS, he, h1, col_assoc]
      · rw [e1]; simp only [yS, h1, if_true, Int.add_zero, eO_w]
  · cases he : f.Empty with
    | true => exact ⟨.inr ⟨by simp [stepS, he, h1], by simp [stepS, he, eO]⟩, fun h => by cases h⟩
    | false =>
      have e0 : (stepS r f).b = r.b := by simp [stepS, he, h1]
      have e4 : eO s (stepS r f) = eO s r := by unfold eO; rw [e0]
      have e1 : yS ⟨w64 (eO s r + r.h), if s.t = true then colM s.m r.b else s.b, r.m, false⟩ f = w64 (eO s r + yS r f) := by
        simp only [yS, h1, Bool.false_eq_true, if_false, w64_addr, w64_addl, Int.add_assoc]
      refine ⟨.inr ⟨by simp [stepS, he], ?_⟩, fun _ => by rw [e1, e4]⟩
      have e2 : (stepS r f).h = w64 (yS r f + f.H) := by simp [stepS, he]
      have e3 : stepS ⟨w64 (eO s r + r.h), if s.t = true then colM s.m r.b else s.b, r.m, false⟩ f = ⟨w64 (yS ⟨w64 (eO s r + r.h), if s.t = true then colM s.m r.b else s.b, r.m, false⟩ f + f.H), if s.t = true then colM s.m r.b else s.b, f.After, false⟩ := by simp [stepS, he]
      rw [e3, e1, e2, e4, e0, w64_addr, w64_addl, Int.add_assoc]
      simp [stepS, he]
theorem b_stable : ∀ (L : List TBlockFragment) (r : SS), r.t = false → (foldS r L).b = r.b ∧ (foldS r L).t = false
  | [], r, h => ⟨rfl, h⟩
  | f :: L, r, h => by
    have h1 : (stepS r f).t = false := by unfold stepS; split <;> simp [h]
    have h2 : (stepS r f).b = r.b := by unfold stepS; split <;> simp [h]
    obtain ⟨a, b⟩ := b_stable L (stepS r f) h1
    exact ⟨a.trans h2, b⟩
theorem RR.fold : ∀ (L : List TBlockFragment) {s r q : SS}, RR s r q → RR s (foldS r L) (foldS q L) ∧ ∀ i, i < L.length → (L.getD i default).Empty = false → ((plS q L).getD i default).Y = w64 (eO s (foldS r L) + ((plS r L).getD i default).Y) ∧ (foldS r L).t = false
  | [], s, r, q, h => ⟨h, fun i hi => by simp at hi⟩
  | f :: L, s, r, q, h => by
    obtain ⟨h1, h2⟩ := h.step f
    obtain ⟨h3, h4⟩ := RR.fold L h1
    refine ⟨h3, fun i hi he => ?_⟩
    cases i with
    | zero =>
      simp only [List.getD_cons_zero] at he
      have ht : (stepS r f).t = false := by simp [stepS, he]
      obtain ⟨b1, b2⟩ := b_stable L (stepS r f) ht
      refine ⟨?_, b2⟩
      simp only [plS, List.getD_cons_zero, foldS]
      rw [h2 he]
      have : eO s (foldS (stepS r f) L) = eO s (stepS r f) := by unfold eO; rw [b1]
      rw [this]
    | succ i =>
      simp only [List.getD_cons_succ] at he
      simp only [plS, List.getD_cons_succ, foldS]
      exact h4 i (by simpa using hi) he
/-- A block around a stack, as a fragment of another stack. -/
structure Wr (X : TBlockFragment) (r : SS) : Prop where
  e : X.Empty = r.t
  b : X.Before = if r.t = true then r.m else r.b
  a : X.After = r.m
  h : X.H = r.h
theorem step_wrap {s r q : SS} (h : RR s r q) {X : TBlockFragment} (hX : Wr X r) : stepS s X = q ∧ (r.t = false → yS s X = eO s r) := by
  obtain ⟨x1, x2, x3, x4⟩ := hX
  rcases h with ⟨h1, rfl⟩ | ⟨h1, rfl⟩
  · exact ⟨by simp [stepS, x1, h1, x2], fun h => by rw [h1] at h; cases h⟩
  · have e : yS s X = eO s r := by simp [yS, eO, x2, h1]
    refine ⟨?_, fun _ => e⟩
    have e3 : stepS s X = ⟨w64 (yS s X + X.H), if s.t = true then colM s.m X.Before else s.b, X.After, false⟩ := by simp [stepS, x1, h1]
    rw [e3, e, x4, x3, x2]
    simp [h1]
theorem RR_s0 {s : SS} (h : NM s.m) : RR s s0 s := .inl ⟨rfl, by show s = ⟨s.h, s.b, colM s.m zTBlockMargin, s.t⟩; rw [col_z h]⟩
/-! ### Blocks whose kids are blocks -/
def E0 : TBlockEnv := ⟨58, 59, 60, 61⟩
def bS (s : SS) : TBlockMargin := if s.t = true then s.m else s.b
def layF (b : TBoxtreeBox) (z : TBlockSizes) (above below : Bool) (L : List TBlockFragment) : TBlockFragment :=
  finM b z true (plS s0 L) (dR above below (foldS s0 L).t (bS (foldS s0 L))) (befR above below (foldS s0 L).t (bS (foldS s0 L)) z) (aftR above below (foldS s0 L).t (bS (foldS s0 L)) (foldS s0 L).m z) ((foldS s0 L).t && above && below) (hM b.Style (htR above below (foldS s0 L).t (foldS s0 L).h (bS (foldS s0 L)) (foldS s0 L).m))
theorem lay_blocks (N : Nat) (hN : 20 < N) (b : TBoxtreeBox) (z : TBlockSizes) (hlen : b.Kids.length ≤ 20) (hk1 : ∀ k ∈ b.Kids, k.Kind = 1) (above below : Bool) (F : TBoxtreeBox → TBlockFragment)
    (hF : ∀ k ∈ flowM b, (KN (N + 1)).d_TBoxtreeBox_Int__TBlockFragment 58 k z.Content = some (F k)) : g_block_layout (KN (N + 1)) (N + 1) b z above below E0 = some (layF b z above below ((flowM b).map F)) := by
  have hO : ∀ x, (KN (N + 1)).d_TBoxtreeBox__Bool 72 x = some (outerM x) := fun x => outer_def (KN N) N x
  have hfl : (flowM b).length ≤ 20 := Nat.le_trans flowM_len hlen
  have hou : ∀ k ∈ flowM b, outerM k = true := fun k hk => by simp [outerM, hk1 k (List.mem_filter.1 hk).1]
  unfold g_block_layout
  rw [bflow_def _ _ hO b hlen (by omega)]
  simp only [Option.bind_some]
  cases hq : flowM b with
  | nil =>
    rw [hq] at hfl
    simp only [List.any_nil, Bool.false_eq_true, if_false, E0]
    rw [show (KN (N + 1)).d_ListTBoxtreeBox_TCascadeStyle_Int__ListTBlockFragmentInt 60 [] b.Style z.Content = some ([], 0) from lines_def (KN N) N [] b.Style z.Content (by simp) hN]
    simp only [Option.bind_some]
    rw [clone_def _ _ [] (by simp)]
    simp only [Option.bind_some]
    rw [j2_def _ _ (by omega) b z [] (by simp) ([], false) (fun h => by cases h)]
    rfl
  | cons k r =>
    have ha : (k :: r).any outerM = true := by rw [List.any_cons, hou k (by rw [hq]; exact List.mem_cons_self ..)]; rfl
    rw [hq] at hF hfl hou
    simp only [ha, if_true]
    have e1 := bl1_loop (KN (N + 1)) (N + 1) b z above below E0 (k :: r, true) F hfl (fun k hk => hF k hk) (N + 1) 0 [] (by omega) (by simp only [List.length_cons] at hfl ⊢; omega) (by simp)
    simp only [List.nil_append, List.drop_zero] at e1
    rw [show g_block_layout_l1 (KN (N + 1)) (N + 1) b z above below E0 (k :: r, true) (N + 1) 0 [] = _ from e1, stackM_def _ _ _ (by simpa using hfl) (by omega)]
    simp only [Option.bind_some, outS]
    rw [j2_def _ _ (by omega) b z _ (by rw [plS_len]; simpa using hfl) (k :: r, true) (fun _ => ⟨by rw [plS_len]; simp, fun k hk => hou k hk⟩)]
    rfl
/-! ### Bounds of what is laid out -/
theorem lenM_nn {l : TCascadeLength} (h : 0 ≤ l.Value) (b : Int) : 0 ≤ (lenM l b).1 := by
  unfold lenM; split
  · simp only []; omega
  · split
    · simp only []
      have h1 : 0 ≤ min (max b 0) 1048576 := by omega
      have h2 : min (max b 0) 1048576 ≤ 1048576 := by omega
      have h3 : 0 ≤ min (max l.Value (-1000000)) 1000000 := by omega
      have h4 : min (max l.Value (-1000000)) 1000000 ≤ 1000000 := by omega
      have h5 := Int.mul_nonneg h1 h3
      have h6 : min (max b 0) 1048576 * min (max l.Value (-1000000)) 1000000 ≤ 1048576 * 1000000 := Int.mul_le_mul h2 h4 h3 (by omega)
      rw [w64_id (n := min (max b 0) 1048576 * min (max l.Value (-1000000)) 1000000) (by omega) (by omega)]
      have h7 := Int.tdiv_nonneg h5 (show (0 : Int) ≤ 10000 by omega)
      have h8 : Int.tdiv (min (max b 0) 1048576 * min (max l.Value (-1000000)) 1000000) 10000 ≤ min (max b 0) 1048576 * min (max l.Value (-1000000)) 1000000 := Int.tdiv_le_self 10000 h5
      rw [w64_id (by omega) (by omega)]
      omega
    · simp
theorem used_marg (s : TCascadeStyle) (w : Int) : (usedM s w).Margin.a0 = (lenM s.Margin.a0 (limM w)).1 ∧ (usedM s w).Margin.a2 = (lenM s.Margin.a2 (limM w)).1 := by
  unfold usedM used1
  simp only []
  repeat (first | exact ⟨rfl, rfl⟩ | split)
theorem NM_of {x : Int} (h0 : 0 ≤ x) (h1 : x ≤ 1048576) : NM (ofM x) := ⟨by simp only [ofM]; omega, by simp only [ofM]; omega, by simp only [ofM]; omega⟩
theorem FI_fin (b : TBoxtreeBox) (w : Int) (bl : Bool) (L : List TBlockFragment) (th : Bool) (h : Int) (bf af : TBlockMargin) (hb : Nice b.Style) (h0 : 0 ≤ h) (h1 : h ≤ 1099511627776) (hbf : NM bf) (haf : NM af) :
    FI (finM b (usedM b.Style w) bl L (dR (aboveM b (usedM b.Style w) true) (belowM b (usedM b.Style w) true) th bf) (befR (aboveM b (usedM b.Style w) true) (belowM b (usedM b.Style w) true) th bf (usedM b.Style w)) (aftR (aboveM b (usedM b.Style w) true) (belowM b (usedM b.Style w) true) th bf af (usedM b.Style w)) (th && aboveM b (usedM b.Style w) true && belowM b (usedM b.Style w) true) (hM b.Style (htR (aboveM b (usedM b.Style w) true) (belowM b (usedM b.Style w) true) th h bf af))) ∧
    (finM b (usedM b.Style w) bl L (dR (aboveM b (usedM b.Style w) true) (belowM b (usedM b.Style w) true) th bf) (befR (aboveM b (usedM b.Style w) true) (belowM b (usedM b.Style w) true) th bf (usedM b.Style w)) (aftR (aboveM b (usedM b.Style w) true) (belowM b (usedM b.Style w) true) th bf af (usedM b.Style w)) (th && aboveM b (usedM b.Style w) true && belowM b (usedM b.Style w) true) (hM b.Style (htR (aboveM b (usedM b.Style w) true) (belowM b (usedM b.Style w) true) th h bf af))).H ≤ h + 7340032 := by
  obtain ⟨u1, u2⟩ := used_edges b.Style w
  obtain ⟨g1, g2⟩ := used_marg b.Style w
  have hb0 : 0 ≤ (usedM b.Style w).Border.a0 ∧ (usedM b.Style w).Border.a0 ≤ 1048576 := by rw [u1]; simp only [edgesM, limM]; omega
  have hb2 : 0 ≤ (usedM b.Style w).Border.a2 ∧ (usedM b.Style w).Border.a2 ≤ 1048576 := by rw [u1]; simp only [edgesM, limM]; omega
  have hp0 : 0 ≤ (usedM b.Style w).Padding.a0 ∧ (usedM b.Style w).Padding.a0 ≤ 1048576 := by rw [u2]; simp only [edgesM]; have := lenM_bd b.Style.Padding.a0 (limM w); omega
  have hp2 : 0 ≤ (usedM b.Style w).Padding.a2 ∧ (usedM b.Style w).Padding.a2 ≤ 1048576 := by rw [u2]; simp only [edgesM]; have := lenM_bd b.Style.Padding.a2 (limM w); omega
  have hm0 : NM (ofM (usedM b.Style w).Margin.a0) := by rw [g1]; exact NM_of (lenM_nn hb.1 _) (lenM_bd _ _).2
  have hm2 : NM (ofM (usedM b.Style w).Margin.a2) := by rw [g2]; exact NM_of (lenM_nn hb.2.2.1 _) (lenM_bd _ _).2
  have ha : aboveM b (usedM b.Style w) true = true → (usedM b.Style w).Border.a0 = 0 ∧ (usedM b.Style w).Padding.a0 = 0 := by
    unfold aboveM; intro h
    simp only [Bool.true_and, Bool.and_eq_true, beq_iff_eq] at h
    have := h.2; rw [w64_id (by omega) (by omega)] at this; omega
  have hbe : belowM b (usedM b.Style w) true = true → (usedM b.Style w).Border.a2 = 0 ∧ (usedM b.Style w).Padding.a2 = 0 ∧ b.Style.Height.Kind ≠ 1 := by
    unfold belowM; intro h
    simp only [Bool.true_and, Bool.and_eq_true, beq_iff_eq, bne_iff_ne] at h
    have := h.2.1; rw [w64_id (by omega) (by omega)] at this; exact ⟨by omega, by omega, h.2.2⟩
  generalize aboveM b (usedM b.Style w) true = ab at ha ⊢
  generalize belowM b (usedM b.Style w) true = be at hbe ⊢
  generalize usedM b.Style w = z at *
  have sG : ∀ {m : TBlockMargin}, NM m → 0 ≤ sumG m ∧ sumG m ≤ 1048576 := fun {m} hm => by
    obtain ⟨q1, q2, q3⟩ := hm; unfold sumG; rw [q1, w64_id (by omega) (by omega)]; omega
  have hd : 0 ≤ dR ab be th bf ∧ dR ab be th bf ≤ 1048576 := by
    unfold dR; repeat (first | exact sG hbf | omega | split)
  have hht : 0 ≤ htR ab be th h bf af ∧ htR ab be th h bf af ≤ h + 2097152 := by
    have := sG haf
    unfold htR
    split
    · omega
    · split
      · omega
      · split
        · rw [w64_id (by omega) (by omega)]; omega
        · rw [w64_id (n := dR ab be th bf + sumG af) (by omega) (by omega), w64_id (by omega) (by omega)]; omega
  have hhm : 0 ≤ hM b.Style (htR ab be th h bf af) ∧ hM b.Style (htR ab be th h bf af) ≤ h + 2097152 := by
    unfold hM; split <;> omega
  have hbef : NM (befR ab be th bf z) := by
    unfold befR; simp only []
    have hb1 : NM (if ab = true then colM (ofM z.Margin.a0) bf else ofM z.Margin.a0) := by split; exact hm0.col hbf; exact hm0
    split
    · exact hb1.col hm2
    · exact hb1
  have haft : NM (aftR ab be th bf af z) := by
    unfold aftR
    repeat (first | exact hbef | exact hm2 | exact hm2.col hbf | exact hm2.col haf | split)
  have hH : (finM b z bl L (dR ab be th bf) (befR ab be th bf z) (aftR ab be th bf af z) (th && ab && be) (hM b.Style (htR ab be th h bf af))).H = hM b.Style (htR ab be th h bf af) + z.Border.a0 + z.Padding.a0 + z.Border.a2 + z.Padding.a2 := by
    show w64 (w64 (w64 (w64 (_ + z.Border.a0) + z.Padding.a0) + z.Border.a2) + z.Padding.a2) = _
    rw [w64_id (n := hM b.Style (htR ab be th h bf af) + z.Border.a0) (by omega) (by omega), w64_id (n := hM b.Style (htR ab be th h bf af) + z.Border.a0 + z.Padding.a0) (by omega) (by omega), w64_id (n := hM b.Style (htR ab be th h bf af) + z.Border.a0 + z.Padding.a0 + z.Border.a2) (by omega) (by omega), w64_id (by omega) (by omega)]
  refine ⟨⟨by rw [hH]; omega, hbef, haft, fun he => ?_⟩, by rw [hH]; omega⟩
  rw [hH]
  have he' : (th && ab && be) = true := he
  have he2 := he'
  simp only [Bool.and_eq_true] at he2
  obtain ⟨⟨t1, t2⟩, t3⟩ := he2
  have hz : htR ab be th h bf af = 0 := by unfold htR; rw [if_pos he']
  have := ha t2
  have := hbe t3
  unfold hM
  rw [hz, if_neg this.2.2]; omega
end Go.Proofs.Ytkciiamllegclaa

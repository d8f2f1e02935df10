/- The law BlockWraps of layer 17, plain. No program in sight. -/
import Derived.Test.YtkciiamllegclaaSrQWrapD
import Derived.Test.YtkciiamllegclaaSrGop
namespace Go.Proofs.Ytkciiamllegclaa.QBlockWraps
set_option linter.all false
open Go.RowKit
structure WS (f g : TBlockFragment) : Prop where
  l2 : g.Kids.length = 2
  ll : ((g.Kids.getD 0 default).Kids ++ (g.Kids.getD 1 default).Kids).length = f.Kids.length
  l20 : f.Kids.length ≤ 20
  eq : { f with Kids := [] } = { g with Kids := [] }
  pl : ∀ i, i < f.Kids.length → (f.Kids.getD i default).H > 0 →
    w64 ((((g.Kids.getD 0 default).Kids ++ (g.Kids.getD 1 default).Kids).getD i default).Y + (if (g.Kids.getD 0 default).Kids.length ≤ i then (g.Kids.getD 1 default) else (g.Kids.getD 0 default)).Y) = (f.Kids.getD i default).Y ∧
    w64 ((((g.Kids.getD 0 default).Kids ++ (g.Kids.getD 1 default).Kids).getD i default).X + (if (g.Kids.getD 0 default).Kids.length ≤ i then (g.Kids.getD 1 default) else (g.Kids.getD 0 default)).X) = (f.Kids.getD i default).X
theorem layF_nokids (b b' : TBoxtreeBox) (z : TBlockSizes) (ab be : Bool) (L L' : List TBlockFragment) (h1 : b.Node = b'.Node) (h2 : b.Style = b'.Style) (h3 : foldS s0 L = foldS s0 L') : ({ layF b z ab be L with Kids := [] } : TBlockFragment) = { layF b' z ab be L' with Kids := [] } := by
  unfold layF finM
  simp only [h1, h2, h3]
theorem ws_of (b : TBoxtreeBox) (z : TBlockSizes) (ab be : Bool) (A B : List TBlockFragment) (KA KB ks : List TBoxtreeBox) (hA : ∀ f ∈ A, FI f) (hB : ∀ f ∈ B, FI f) (hsum : sumH A + sumH B ≤ 1099511627776) (hl : A.length + B.length ≤ 20) :
    WS (layF b z ab be (A ++ B)) (layF { b with Kids := ks } z ab be [layF (wb KA) (zw z.Content) true true A, layF (wb KB) (zw z.Content) true true B]) := by
  have nA := sumH_nn hA
  have nB := sumH_nn hB
  have siA := SI_s0.fold hA (by omega) (by omega)
  have siB := SI_s0.fold hB (by omega) (by omega)
  have wA := wr_lay KA z.Content A siA (by omega)
  have wB := wr_lay KB z.Content B siB (by omega)
  generalize hWA : layF (wb KA) (zw z.Content) true true A = WA at wA
  generalize hWB : layF (wb KB) (zw z.Content) true true B = WB at wB
  obtain ⟨rA, _⟩ := RR.fold A (RR_s0 (s := s0) NM_z)
  obtain ⟨sA1, sA2⟩ := step_wrap rA wA
  obtain ⟨rB, rY⟩ := RR.fold B (RR_s0 siA.m)
  obtain ⟨sB1, sB2⟩ := step_wrap rB wB
  have hfold : foldS s0 [WA, WB] = foldS s0 (A ++ B) := by
    rw [foldS_app]
    simp only [foldS]
    rw [sA1, sB1]
  have hpl : plS s0 [WA, WB] = [{ WA with Y := 0 }, { WB with Y := yS (foldS s0 A) WB }] := by
    simp only [plS, sA1]
    rfl
  have hdr : ∀ t bf, dR true true t bf = 0 := fun _ _ => rfl
  have kA : WA.Kids = (plS s0 A).map (kidM true (zw z.Content) 0) := by rw [← hWA]; rfl
  have kB : WB.Kids = (plS s0 B).map (kidM true (zw z.Content) 0) := by rw [← hWB]; rfl
  have xA : WA.X = 0 ∧ WA.Style.Position = 0 := by rw [← hWA]; exact ⟨rfl, rfl⟩
  have xB : WB.X = 0 ∧ WB.Style.Position = 0 := by rw [← hWB]; exact ⟨rfl, rfl⟩
  have hfK : (layF b z ab be (A ++ B)).Kids = (plS s0 A ++ plS (foldS s0 A) B).map (kidM true z (dR ab be (foldS s0 (A ++ B)).t (bS (foldS s0 (A ++ B))))) := by
    rw [← plS_app]; rfl
  have hgK : (layF { b with Kids := ks } z ab be [WA, WB]).Kids = [kidM true z (dR ab be (foldS s0 (A ++ B)).t (bS (foldS s0 (A ++ B)))) { WA with Y := 0 }, kidM true z (dR ab be (foldS s0 (A ++ B)).t (bS (foldS s0 (A ++ B)))) { WB with Y := yS (foldS s0 A) WB }] := by
    show (plS s0 [WA, WB]).map (kidM true z (dR ab be (foldS s0 [WA, WB]).t (bS (foldS s0 [WA, WB])))) = _
    rw [hfold, hpl]; rfl
  generalize hdd : dR ab be (foldS s0 (A ++ B)).t (bS (foldS s0 (A ++ B))) = dd at hfK hgK
  have kk : ∀ (W : TBlockFragment) (y : Int), W.X = 0 → W.Style.Position = 0 → (kidM true z dd { W with Y := y }).Kids = W.Kids ∧ (kidM true z dd { W with Y := y }).X = w64 (0 + w64 (z.Border.a3 + z.Padding.a3)) ∧ (kidM true z dd { W with Y := y }).Y = w64 (y + w64 (w64 (z.Border.a0 + z.Padding.a0) + dd)) := fun W y h1 h2 => by
    refine ⟨kidM_kids true z dd { W with Y := y }, ?_, ?_⟩
    · unfold kidM; simp only [if_true, movM_X, h1, h2]; rfl
    · unfold kidM; simp only [if_true, movM_Y, h2]; rfl
  obtain ⟨a1, a2, a3⟩ := kk WA 0 xA.1 xA.2
  obtain ⟨b1, b2, b3⟩ := kk WB (yS (foldS s0 A) WB) xB.1 xB.2
  have e0 : (layF { b with Kids := ks } z ab be [WA, WB]).Kids.getD 0 default = kidM true z dd { WA with Y := 0 } := by rw [hgK]; rfl
  have e1 : (layF { b with Kids := ks } z ab be [WA, WB]).Kids.getD 1 default = kidM true z dd { WB with Y := yS (foldS s0 A) WB } := by rw [hgK]; rfl
  have hl2 : (layF { b with Kids := ks } z ab be [WA, WB]).Kids.length = 2 := by rw [hgK]; rfl
  generalize hG0 : kidM true z dd { WA with Y := 0 } = G0 at a1 a2 a3 e0
  generalize hG1 : kidM true z dd { WB with Y := yS (foldS s0 A) WB } = G1 at b1 b2 b3 e1
  refine ⟨hl2, ?_, ?_, ?_, fun i hi hH => ?_⟩
  · rw [e0, e1, a1, b1, kA, kB, hfK]; simp [plS_len]
  · rw [hfK]; simp [plS_len]; omega
  · exact layF_nokids b { b with Kids := ks } z ab be _ _ rfl rfl hfold.symm
  · rw [e0, e1, a1, b1, kA, kB]
    have hlen : (layF b z ab be (A ++ B)).Kids.length = A.length + B.length := by rw [hfK]; simp [plS_len]
    rw [hlen] at hi
    rw [hfK] at hH ⊢
    have hpa := plS_len s0 A
    have hpb := plS_len s0 B
    have hpb2 := plS_len (foldS s0 A) B
    rw [← List.map_append]
    have E1 : ((plS s0 A ++ plS s0 B).map (kidM true (zw z.Content) 0)).getD i default = kidM true (zw z.Content) 0 ((plS s0 A ++ plS s0 B).getD i default) := getD_map' _ _ (by rw [List.length_append, hpa, hpb]; omega)
    have E2 : ((plS s0 A ++ plS (foldS s0 A) B).map (kidM true z dd)).getD i default = kidM true z dd ((plS s0 A ++ plS (foldS s0 A) B).getD i default) := getD_map' _ _ (by rw [List.length_append, hpa, hpb2]; omega)
    rw [E2] at hH ⊢
    rw [E1]
    rw [List.length_map, hpa]
    by_cases hc : A.length ≤ i
    · rw [if_pos hc, b2, b3]
      have E3 := getD_appr (plS s0 A) (plS (foldS s0 A) B) (j := i) (by rw [hpa]; exact hc) (by rw [hpa, hpb2]; omega)
      have E4 := getD_appr (plS s0 A) (plS s0 B) (j := i) (by rw [hpa]; exact hc) (by rw [hpa, hpb]; omega)
      rw [hpa] at E3 E4
      rw [E3] at hH ⊢
      rw [E4]
      have hj : i - A.length < B.length := by omega
      rw [kidM_H, plS_getD B _ _ hj] at hH
      have he : (B.getD (i - A.length) default).Empty = false := by
        cases hq : (B.getD (i - A.length) default).Empty with
        | false => rfl
        | true =>
          have := (hB _ (getD_mem hj)).em hq
          have hH' : (B.getD (i - A.length) default).H > 0 := hH
          omega
      obtain ⟨y1, y2⟩ := rY _ hj he
      rw [sB2 y2]
      rw [plS_getD B (foldS s0 A) _ hj, plS_getD B s0 _ hj]
      exact ⟨kid_Y { B.getD (i - A.length) default with Y := ((plS s0 B).getD (i - A.length) default).Y } z dd (eO (foldS s0 A) (foldS s0 B)) _ (by rw [y1, w64_w64]), kid_X { B.getD (i - A.length) default with Y := ((plS s0 B).getD (i - A.length) default).Y } z dd _⟩
    · rw [if_neg hc, a2, a3]
      rw [getD_appl (plS s0 A) (plS (foldS s0 A) B) (by rw [hpa]; omega)]
      rw [getD_appl (plS s0 A) (plS s0 B) (by rw [hpa]; omega)]
      have hj : i < A.length := by omega
      generalize (plS s0 A).getD i default = x
      have h1 := kid_Y x z dd 0 x.Y (by rw [Int.zero_add])
      have h2 := kid_X x z dd x.Y
      exact ⟨h1, h2⟩
theorem used_kids (b : TBoxtreeBox) (ks : List TBoxtreeBox) (w : Int) : usedM ({ b with Kids := ks } : TBoxtreeBox).Style w = usedM b.Style w := rfl
theorem above_kids (b : TBoxtreeBox) (ks : List TBoxtreeBox) (z : TBlockSizes) : aboveM ({ b with Kids := ks } : TBoxtreeBox) z true = aboveM b z true ∧ belowM ({ b with Kids := ks } : TBoxtreeBox) z true = belowM b z true := ⟨rfl, rfl⟩
theorem flow_wr (b : TBoxtreeBox) (A B : List TBoxtreeBox) : flowM { b with Kids := [wb A, wb B] } = [wb A, wb B] := by
  have h : ∀ A, inM (wb A) = true := fun A => rfl
  show [wb A, wb B].filter inM = _
  simp [h]
theorem wraps (d N : Nat) (hN : d + 30 ≤ N) (b : TBoxtreeBox) (w : Int) (hg : GoodB (d + 1) b) (hnb : NB (d + 1) b) (hs : Sz (d + 1) b ≤ 20) (hk1 : ∀ k ∈ b.Kids, k.Kind = 1) (c : Nat) :
    ∃ f g, g_block_Layout (KN N) N b w E0 = some f ∧ g_block_Layout (KN N) N { b with Kids := [wb (b.Kids.take c), wb (b.Kids.drop c)] } w E0 = some g ∧ WS f g := by
  obtain ⟨M, rfl⟩ : ∃ M, N = M + 1 := ⟨N - 1, by omega⟩
  obtain ⟨M, rfl⟩ : ∃ M', M = M' + 1 := ⟨M - 1, by omega⟩
  have hs' : 1 + (b.Kids.map (Sz d)).sum ≤ 20 := hs
  obtain ⟨w0, w1⟩ := used_content b.Style w hnb.1
  have hgd : ∀ k ∈ b.Kids, GoodB d k := by
    rcases hg.2 with h | h
    · exact fun k hk => (h k hk).2
    · intro k hk; have := h k hk; have := hk1 k hk; omega
  have ih : ∀ k, ∃ f, k ∈ b.Kids → PF d (usedM b.Style w).Content k f := fun k => by
    by_cases hm : k ∈ b.Kids
    · have := le_sum (Sz d) hm
      obtain ⟨f, hf⟩ := lay_FI d k (usedM b.Style w).Content (hgd k hm) (hnb.2 k hm (hk1 k hm)) (by omega)
      exact ⟨f, fun _ => hf⟩
    · exact ⟨default, fun h => absurd h hm⟩
  obtain ⟨F, hF⟩ := Classical.skolem.1 ih
  generalize hz : usedM b.Style w = z at *
  have hta : ∀ k ∈ b.Kids.take c, k ∈ b.Kids := fun k h => List.mem_of_mem_take h
  have htb : ∀ k ∈ b.Kids.drop c, k ∈ b.Kids := fun k h => List.mem_of_mem_drop h
  have lA : (b.Kids.take c).length ≤ 20 := by have := hg.1; rw [List.length_take]; omega
  have lB : (b.Kids.drop c).length ≤ 20 := by have := hg.1; rw [List.length_drop]; omega
  have hfl : flowM b = flowM (wb (b.Kids.take c)) ++ flowM (wb (b.Kids.drop c)) := by
    show b.Kids.filter inM = (b.Kids.take c).filter inM ++ (b.Kids.drop c).filter inM
    rw [← List.filter_append, List.take_append_drop]
  have mA : ∀ k ∈ flowM (wb (b.Kids.take c)), k ∈ b.Kids := fun k h => hta k (List.mem_filter.1 h).1
  have mB : ∀ k ∈ flowM (wb (b.Kids.drop c)), k ∈ b.Kids := fun k h => htb k (List.mem_filter.1 h).1
  have lay1 : ∀ (A : List TBoxtreeBox), A.length ≤ 20 → (∀ k ∈ A, k ∈ b.Kids) → (KN (M + 1 + 1)).d_TBoxtreeBox_Int__TBlockFragment 58 (wb A) z.Content = some (layF (wb A) (zw z.Content) true true ((flowM (wb A)).map F)) := fun A hA hm => by
    show g_law17_lay (KN (M + 1)) (M + 1) (wb A) z.Content = _
    unfold g_law17_lay g_law17_Env
    simp only [Option.bind_some]
    rw [show (⟨58, 59, 60, 61⟩ : TBlockEnv) = E0 from rfl, blayout_unf, used_wb A z.Content w0 w1, (above_wb A z.Content).1, (above_wb A z.Content).2]
    rw [lay_blocks M (by omega) (wb A) (zw z.Content) hA (fun k h => hk1 k (hm k h)) true true F (fun k h => lay_step (hF k (hm k (List.mem_filter.1 h).1)) (by omega))]
    rfl
  have e1 : g_block_Layout (KN (M + 1 + 1)) (M + 1 + 1) b w E0 = some (layF b z (aboveM b z true) (belowM b z true) ((flowM b).map F)) := by
    rw [blayout_unf, hz]
    exact lay_blocks (M + 1) (by omega) b z hg.1 hk1 _ _ F (fun k h => lay_step (hF k (List.mem_filter.1 h).1) (by omega))
  have e2 : g_block_Layout (KN (M + 1 + 1)) (M + 1 + 1) { b with Kids := [wb (b.Kids.take c), wb (b.Kids.drop c)] } w E0 = some (layF { b with Kids := [wb (b.Kids.take c), wb (b.Kids.drop c)] } z (aboveM b z true) (belowM b z true) ([wb (b.Kids.take c), wb (b.Kids.drop c)].map fun k => layF k (zw z.Content) true true ((flowM k).map F))) := by
    rw [blayout_unf]
    rw [used_kids, hz, (above_kids b _ z).1, (above_kids b _ z).2]
    have q := lay_blocks (M + 1) (by omega) { b with Kids := [wb (b.Kids.take c), wb (b.Kids.drop c)] } z (by simp) (fun k h => by
      simp only [List.mem_cons, List.not_mem_nil, or_false] at h
      rcases h with rfl | rfl <;> rfl) (aboveM b z true) (belowM b z true) (fun k => layF k (zw z.Content) true true ((flowM k).map F)) (fun k h => by
      rw [flow_wr] at h
      simp only [List.mem_cons, List.not_mem_nil, or_false] at h
      rcases h with rfl | rfl
      · exact lay1 _ lA hta
      · exact lay1 _ lB htb)
    rw [flow_wr] at q
    exact q
  refine ⟨_, _, e1, e2, ?_⟩
  rw [hfl, List.map_append]
  have sA := sumH_le d F (flowM (wb (b.Kids.take c))) fun k hk => (hF k (mA k hk)).2.2
  have sB := sumH_le d F (flowM (wb (b.Kids.drop c))) fun k hk => (hF k (mB k hk)).2.2
  have fs : ((flowM b).map (Sz d)).sum ≤ (b.Kids.map (Sz d)).sum := filter_sum (Sz d) inM b.Kids
  rw [hfl, List.map_append, List.sum_append] at fs
  have lf : (flowM b).length ≤ 20 := Nat.le_trans flowM_len hg.1
  rw [hfl, List.length_append] at lf
  exact ws_of b z _ _ _ _ _ _ _ (fun f hf => by
    obtain ⟨k, hk, rfl⟩ := List.mem_map.1 hf
    exact (hF k (mA k hk)).2.1) (fun f hf => by
    obtain ⟨k, hk, rfl⟩ := List.mem_map.1 hf
    exact (hF k (mB k hk)).2.1) (by omega) (by rw [List.length_map, List.length_map]; exact lf)
theorem l5_loop (N n : Nat) (f g : TBlockFragment) (h : WS f g) : ∀ (m i : Nat), i ≤ f.Kids.length → f.Kids.length < m + i →
    g_law17_BlockWraps_l5 (KN N) (n + 1) f g ((g.Kids.getD 0 default).Kids ++ (g.Kids.getD 1 default).Kids) m i = some true := by
  intro m
  induction m with
  | zero => intro i h1 h2; omega
  | succ m ih =>
    intro i h1 h2
    simp only [g_law17_BlockWraps_l5, g_law17_BlockWraps_l5_b]
    have hll := h.ll
    have hl2 := h.l2
    have h20 := h.l20
    by_cases hi : i < f.Kids.length
    · have i0 : inb (0 : Int) g.Kids.length = true := by rw [hl2]; rfl
      have i1 : inb (1 : Int) g.Kids.length = true := by rw [hl2]; rfl
      have t0 : (0 : Int).toNat = 0 := rfl
      have t1 : (1 : Int).toNat = 1 := rfl
      have hik : i < ((g.Kids.getD 0 default).Kids ++ (g.Kids.getD 1 default).Kids).length := by rw [hll]; exact hi
      have nx := ih (i + 1) (by omega) (by omega)
      have j3 : ∀ o : TBlockFragment, o = (if (g.Kids.getD 0 default).Kids.length ≤ i then (g.Kids.getD 1 default) else (g.Kids.getD 0 default)) →
          g_law17_BlockWraps_j3 (KN N) (n + 1) f g ((g.Kids.getD 0 default).Kids ++ (g.Kids.getD 1 default).Kids) i (g_law17_BlockWraps_l5 (KN N) (n + 1) f g ((g.Kids.getD 0 default).Kids ++ (g.Kids.getD 1 default).Kids) m) o = some true := by
        intro o ho
        unfold g_law17_BlockWraps_j3
        simp only [inbN hi, inbN hik, chk_true, Int.toNat_natCast, g_law17_BlockWraps_j4, step64 (show i < 1000000 by omega)]
        by_cases hH : (f.Kids.getD i default).H > 0
        · obtain ⟨p1, p2⟩ := h.pl i hi hH
          rw [← ho] at p1 p2
          simp only [hH, decide_true, if_true, p1, p2, bne_self_eq_false, Bool.false_eq_true, if_false]
          exact nx
        · simp only [hH, decide_false, Bool.false_eq_true, if_false]
          exact nx
      simp only [dec_lt hik, if_true, i0, i1, t0, t1, chk_true, Option.bind_some]
      by_cases hc : (g.Kids.getD 0 default).Kids.length ≤ i
      · rw [if_pos (by simpa using hc)]
        exact j3 _ (by rw [if_pos hc])
      · rw [if_neg (by simpa using hc)]
        exact j3 _ (by rw [if_neg hc])
    · simp only [dec_ge (show ((g.Kids.getD 0 default).Kids ++ (g.Kids.getD 1 default).Kids).length ≤ i by omega), Bool.false_eq_true, if_false]
      rw [h.eq]
      rw [same_leaf (KN N) n { g with Kids := [] } rfl]
      rfl
theorem marg_loop (N n : Nat) (L : List TKnapsackref17Spec) (w c : Int) (hL : L.length ≤ 20) (hf : ∀ x ∈ L, FewS x) (Z : (∀ x ∈ L, Nice x.Style) → ∀ m, g_law17_BlockWraps_l2 (KN N) n L w c (m + 1) (L.length : Int) = some true) : ∀ (m i : Nat), i ≤ L.length → L.length < m + i → (∀ j, j < i → Nice (L.getD j default).Style) → g_law17_BlockWraps_l2 (KN N) n L w c m i = some true := by
  intro m
  induction m with
  | zero => intro i h1 h2; omega
  | succ m ih =>
    intro i h1 h2 h3
    by_cases hi : i < L.length
    · simp only [g_law17_BlockWraps_l2, g_law17_BlockWraps_l2_b]
      have hx := hf _ (getD_mem hi)
      have nx := ih (i + 1) (by omega) (by omega)
      simp only [dec_lt hi, if_true, inbN hi, chk_true, Option.bind_some, Int.toNat_natCast, step64 (show i < 1000000 by omega)]
      by_cases c0 : (L.getD i default).Style.Margin.a0.Value < 0
      · rw [if_pos (decide_eq_true c0)]
      rw [if_neg (by rw [decide_eq_true_iff]; exact c0)]
      by_cases c1 : (L.getD i default).Style.Margin.a1.Value < 0
      · rw [if_pos (decide_eq_true c1)]
      rw [if_neg (by rw [decide_eq_true_iff]; exact c1)]
      by_cases c2 : (L.getD i default).Style.Margin.a2.Value < 0
      · rw [if_pos (decide_eq_true c2)]
      rw [if_neg (by rw [decide_eq_true_iff]; exact c2)]
      by_cases c3 : (L.getD i default).Style.Margin.a3.Value < 0
      · rw [if_pos (decide_eq_true c3)]
      rw [if_neg (by rw [decide_eq_true_iff]; exact c3)]
      refine nx fun j hj => ?_
      by_cases e : j = i
      · subst e; exact ⟨by omega, by omega, by omega, by omega, hx.lh.1, hx.lh.2⟩
      · exact h3 j (by omega)
    · have e : i = L.length := by omega
      subst e
      refine Z (fun x hx => ?_) m
      obtain ⟨j, hj, rfl⟩ := List.mem_iff_getElem.1 hx
      have := h3 j hj
      rwa [getD_get hj] at this
theorem blockWraps (L : List TKnapsackref17Spec) (w c : Int) (hL : (L.length : Int) ≤ 9223372036854775807) (hc : 0 ≤ c ∧ c ≤ 255) : ∃ n, g_law17_BlockWraps (KN n) n L w c = some true := by
  refine ⟨(L.length + 95) + 5, ?_⟩
  generalize hn : (L.length + 95) = N at *
  obtain ⟨v, hv, hv2⟩ := few_tot (KN (N + 5)) (N + 5) L 20 hL (by omega)
  unfold g_law17_BlockWraps
  simp only [fit_true, Option.bind_some, Bool.not_true, Bool.false_eq_true, if_false, hv]
  have jt : g_law17_BlockWraps_j1 (KN (N + 5)) (N + 5) L w c true = some true := rfl
  cases v with
  | false => simp [jt]
  | true =>
    obtain ⟨h20, hfew⟩ := hv2 rfl
    simp only [Bool.not_true, Bool.false_eq_true, if_false]
    by_cases h2 : (L.length : Int) < 2
    · simp [h2, jt]
    · have i1 : inb (1 : Int) L.length = true := inb_of (by omega) (by omega)
      have i0 : inb (0 : Int) L.length = true := inb_of (by omega) (by omega)
      simp only [h2, decide_false, Bool.false_eq_true, if_false, i1, chk_true]
      cases hk : (Int.tmod (L.getD (1 : Int).toNat default).Kind 2 != 0) with
      | true => exact jt
      | false =>
        unfold g_law17_BlockWraps_j1
        simp only [Bool.false_eq_true, if_false]
        refine marg_loop (N + 5) (N + 5) L w c (by omega) hfew (fun hNi m => ?_) (N + 5) 0 (by omega) (by omega) (fun j hj => by omega)
        simp only [g_law17_BlockWraps_l2, g_law17_BlockWraps_l2_b]
        obtain ⟨b, i', t1, t2, t3, t4, t5, t6, t7, t8⟩ := treeN 20 (N + 5) L 0 (by omega) (by omega) (by omega) (by omega) hNi
        simp only [dec_ge (Nat.le_refl _), Bool.false_eq_true, if_false]
        rw [show g_ref17_Tree (KN (N + 5)) (N + 5) L 0 = _ from t1]
        simp only [Option.bind_some, i0, i1, chk_true]
        by_cases hd : (L.getD (1 : Int).toNat default).Depth ≤ (L.getD (0 : Int).toNat default).Depth
        · rw [if_pos (decide_eq_true hd)]
        · rw [if_neg (by rw [decide_eq_true_iff]; exact hd)]
          have hk1 := t8 ⟨by omega, by
            have : ¬ (L.getD 1 default).Depth ≤ (L.getD 0 default).Depth := hd
            show (L.getD 1 default).Depth > (L.getD 0 default).Depth
            omega, by
            have hk' : (Int.tmod (L.getD 1 default).Kind 2 != 0) = false := hk
            show (Int.tmod (L.getD 1 default).Kind 2 == 0) = true
            simpa [bne] using hk'⟩
          have hbl : b.Kids.length ≤ 20 := t4.1
          rw [step64 (show b.Kids.length < 1000000 by omega), w64_id (n := c) (by omega) (by omega)]
          have hne : ((((b.Kids.length + 1 : Nat)) : Int) != 0) = true := by simp only [bne_iff_ne]; omega
          rw [hne, chk_true]
          have hm0 : 0 ≤ Int.tmod c ((b.Kids.length + 1 : Nat) : Int) := Int.tmod_nonneg _ hc.1
          have hm1 : Int.tmod c ((b.Kids.length + 1 : Nat) : Int) < ((b.Kids.length + 1 : Nat) : Int) := Int.tmod_lt_of_pos _ (by omega)
          generalize hk0 : Int.tmod c ((b.Kids.length + 1 : Nat) : Int) = k at hm0 hm1
          have s1 : slb (0 : Int) k b.Kids.length = true := by simp only [slb, Bool.and_eq_true, decide_eq_true_eq]; omega
          have s2 : slb k (b.Kids.length : Int) b.Kids.length = true := by simp only [slb, Bool.and_eq_true, decide_eq_true_eq]; omega
          simp only [s1, s2, chk_true, g_law17_Env, Option.bind_some]
          obtain ⟨f, g, f1, f2, f3⟩ := wraps 19 (N + 5) (by omega) b w t4 t6 (by show Sz 20 b ≤ 20; omega) hk1 k.toNat
          have q1 : List.drop (0 : Int).toNat (List.take k.toNat b.Kids) = b.Kids.take k.toNat := rfl
          have q2 : List.drop k.toNat (List.take (b.Kids.length : Int).toNat b.Kids) = b.Kids.drop k.toNat := by rw [Int.toNat_natCast, List.take_length]
          rw [q1, q2]
          rw [show g_block_Layout (KN (N + 5)) (N + 5) b w ⟨58, 59, 60, 61⟩ = _ from f1]
          simp only [Option.bind_some]
          rw [show g_block_Layout (KN (N + 5)) (N + 5) { b with Kids := [{ zTBoxtreeBox with Kind := 1, Kids := b.Kids.take k.toNat }, { zTBoxtreeBox with Kind := 1, Kids := b.Kids.drop k.toNat }] } w ⟨58, 59, 60, 61⟩ = _ from f2]
          have l2 := f3.l2
          have ll := f3.ll
          have l20 := f3.l20
          rw [List.length_append] at ll
          have g2 : ((g.Kids.length : Int) != 2) = false := by rw [l2]; rfl
          have gi0 : inb (0 : Int) g.Kids.length = true := by rw [l2]; rfl
          have gi1 : inb (1 : Int) g.Kids.length = true := by rw [l2]; rfl
          have t0 : (0 : Int).toNat = 0 := rfl
          have t1' : (1 : Int).toNat = 1 := rfl
          simp only [Option.bind_some, g2, Bool.false_eq_true, if_false, gi0, gi1, chk_true, t0, t1', List.nil_append, List.length_nil, Nat.zero_add]
          rw [fits_of (by omega) (by omega), chk_true, fits_of (by omega) (by omega), chk_true]
          have hle : ((((g.Kids.getD 0 default).Kids ++ (g.Kids.getD 1 default).Kids).length : Int) != (f.Kids.length : Int)) = false := by rw [f3.ll]; simp
          rw [hle]
          simp only [Bool.false_eq_true, if_false]
          exact l5_loop (N + 5) (N + 4) f g f3 (N + 5) 0 (by omega) (by omega)
theorem holds (x0 : (List TKnapsackref17Spec)) (x1 : Int) (x2 : Int) (h0 : HasT Try.prog 39 ((eSl eTKnapsackref17Spec) x0)) (h1 : HasT Try.prog 3 ((eInt .i64) x1)) (h2 : HasT Try.prog 5 ((eInt .u8) x2)) : ∃ n, g_law17_BlockWraps (KN n) n x0 x1 x2 = some true := by
  obtain ⟨l, hl, hm, _⟩ := h0.sl_inv Try.underlying39
  simp only [eSl, List.cons.injEq, AV.sl.injEq, and_true] at hl
  have hlen : l.length = x0.length := by rw [← hl, List.length_map]
  have hm' : l.length ≤ 9223372036854775807 := hm
  obtain ⟨k, hk, hw⟩ := h2.int_inv Try.underlying5
  simp only [eInt, List.cons.injEq, AV.int.injEq, and_true, true_and] at hk
  subst hk
  have hw' : 0 ≤ x2 ∧ x2 ≤ 255 := by simpa [Lit.wf, IntKind.min, IntKind.max, IntKind.signed, IntKind.bits] using hw
  exact blockWraps x0 x1 x2 (by omega) hw'
end Go.Proofs.Ytkciiamllegclaa.QBlockWraps

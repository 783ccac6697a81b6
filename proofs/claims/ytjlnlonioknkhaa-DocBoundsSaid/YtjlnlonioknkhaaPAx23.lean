/- Printed by this session's driver of the kit's printer (stubbed functions are proved by hand). Lean checks it. -/
import Derived.Test.YtjlnlonioknkhaaPAx0
namespace Go.Proofs.Ytjlnlonioknkhaa.PA
open Go.RowKit Go.Proofs.YtjlnlonioknkhaaW.PrintWords Go.Proofs.YtjlnlonioknkhaaW.PrintLast Go.Proofs.YtjlnlonioknkhaaW.PrintMore
attribute [local go_sem] max2_int min2_int max_two min_two max_three min_three max_four min_four   -- for this text's walks alone
set_option linter.unusedVariables false
set_option linter.unusedSimpArgs false

/-! ### galleyref15_Count: function 34 -/
mutual
def galleyref15_Count.l0 : Nat → Int → Int → Int → Int → ByteArray → List (S40) → Option (Int)
  | 0, _, _, _, _, _, _ => none
  | k + 1, x3, x4, x398000, x398001, x398002, x398003 => if x4 < (x398003.length : Int) then (if 0 ≤ x4 then ((galleyref15_Count.f k ((rd_T40 x398003 x4).f0) ((rd_T40 x398003 x4).f1) ((rd_T40 x398003 x4).f2) ((rd_T40 x398003 x4).f3)).bind fun t399 => (galleyref15_Count.l0 k (wrap64 (x3 + t399)) (wrap64 (x4 + 1)) x398000 x398001 x398002 x398003)) else (none)) else (some x3)
def galleyref15_Count.f : Nat → Int → Int → ByteArray → List (S40) → Option (Int)
  | 0, _, _, _, _ => none
  | k + 1, a0_0, a0_1, a0_2, l0_3 => galleyref15_Count.l0 k 1 0 a0_0 a0_1 a0_2 l0_3
end
theorem galleyref15_Count.mono_l : ∀ k, (∀ y0 y1 y2 y3, LeO (galleyref15_Count.f k y0 y1 y2 y3) (galleyref15_Count.f (k + 1) y0 y1 y2 y3)) ∧ (∀ y0 y1 y2 y3 y4 y5, LeO (galleyref15_Count.l0 k y0 y1 y2 y3 y4 y5) (galleyref15_Count.l0 (k + 1) y0 y1 y2 y3 y4 y5))
  | 0 => ⟨fun _ _ _ _ r h => by simp [galleyref15_Count.f] at h, fun _ _ _ _ _ _ r h => by simp [galleyref15_Count.l0] at h⟩
  | k + 1 => by
    obtain ⟨ih0, ih1⟩ := galleyref15_Count.mono_l k
    refine ⟨?_, ?_⟩
    · intro y0 y1 y2 y3
      unfold galleyref15_Count.f
      repeat' first
      | (with_reducible exact ih0 _ _ _ _)
      | (with_reducible exact ih1 _ _ _ _ _ _)
      | (with_reducible exact LeO.refl _)
      | (with_reducible exact LeO.none _)
      | (with_reducible refine LeO.ite ?_ ?_)
      | (with_reducible refine LeO.bind ?_ (fun _ => ?_))
      | exact ih0 _ _ _ _
      | exact ih1 _ _ _ _ _ _
      | exact LeO.none _
      | refine LeO.ite ?_ ?_
      | refine LeO.bind ?_ (fun _ => ?_)
    · intro y0 y1 y2 y3 y4 y5
      unfold galleyref15_Count.l0
      repeat' first
      | (with_reducible exact ih0 _ _ _ _)
      | (with_reducible exact ih1 _ _ _ _ _ _)
      | (with_reducible exact LeO.refl _)
      | (with_reducible exact LeO.none _)
      | (with_reducible refine LeO.ite ?_ ?_)
      | (with_reducible refine LeO.bind ?_ (fun _ => ?_))
      | exact ih0 _ _ _ _
      | exact ih1 _ _ _ _ _ _
      | exact LeO.none _
      | refine LeO.ite ?_ ?_
      | refine LeO.bind ?_ (fun _ => ?_)
theorem galleyref15_Count.mono : ∀ a0 a1 a2 a3 k, LeO (galleyref15_Count.f k a0 a1 a2 a3) (galleyref15_Count.f (k + 1) a0 a1 a2 a3) := by
  intro a0 a1 a2 a3 k
  obtain ⟨ih0, ih1⟩ := galleyref15_Count.mono_l k
  exact ih0 a0 a1 a2 a3
set_option maxHeartbeats 8000000 in
set_option maxRecDepth 100000 in
theorem galleyref15_Count.calls (k : Nat) : ∀ (a0_0 : Int) (a0_1 : Int) (a0_2 : ByteArray) (A0_3 : Option Addr) (c0_3 : Nat) (l0_3 : List (S40)) (r : Int) (w : World) (hr0_3 : Kd.C k40 w A0_3 l0_3.length l0_3) (hc0_3 : l0_3.length ≤ c0_3) (h : galleyref15_Count.f k a0_0 a0_1 a0_2 l0_3 = some r),
    Calls Try.prog 34 #[.agg #[.int .i64 a0_0, .int .i64 a0_1, .string a0_2, .slice A0_3 l0_3.length c0_3]] w fun e w' => e = .returned (.int .i64 r) ∧ Below w.heap.size w w' := by
  induction k using Nat.strongRecOn with
  | _ k ih =>
  intro a0_0 a0_1 a0_2 A0_3 c0_3 l0_3 r w hr0_3 hc0_3 h
  cases k with
  | zero => exact absurd h (by simp [galleyref15_Count.f])
  | succ k =>
  simp only [galleyref15_Count.f] at h
  have hu40 := Try.underlying40
  have HR0_3 := Aside0.mk hr0_3
  have HC0_3 := Aside0.mk hc0_3
  clear hr0_3 hc0_3
  have HB := Aside0.mk (Below.refl w.heap.size w)
  have H : (galleyref15_Count.l0 k 1 0 a0_0 a0_1 a0_2 l0_3) = some r := h
  clear h
  have H' := Aside0.mk H
  clear H
  go_enter Try.func34, Try.ntmps34
  go_wp2_with (first | ((with_reducible refine gate_dst (N := 1) rfl ?_); refine box_event ?hg (N := 1) ?hd (cs := #[.int .i64 a0_0, .int .i64 a0_1, .string a0_2, .slice A0_3 l0_3.length c0_3]) (t := 40) ?hr ?_; (case hd => rfl); (case hg => rfl); (case hr => first | (go_simp; done) | (go_simp; rfl)); intro gb397 hg w2 hbox hb; have n0_ := Aside0.mk (below_step (by repeat (first | (with_reducible first | exact HB.out | apply below_alloc | apply pw_below_drewN | apply below_drew1) | exact HB.out)) hb); have n1_ := Aside0.mk (hbox); have n2_ := Aside0.mk ((by rw [hg]; exact (below_size (by repeat (first | (with_reducible first | exact HB.out | apply below_alloc | apply pw_below_drewN | apply below_drew1) | exact HB.out))) : w.heap.size ≤ gb397)); have n3_ := Aside0.mk ((by rw [hg]; exact (below_size (by repeat (first | (with_reducible first | exact HB.out | apply below_alloc | apply pw_below_drewN | apply below_drew1) | exact HB.out))) : w.heap.size ≤ gb397)); clear HB; have HB := n0_; have BK397 := n1_; have GW397 := n2_; have GE397 := n3_; clear n0_ n1_ n2_ n3_; clear hb hbox hg))
  go_loopg [3, 4] k (fun kq v3 v4 w' => ∃ (x3_1 : Int) (x4_1 : Int), v3 = .int .i64 x3_1 ∧ v4 = .int .i64 x4_1 ∧ Aside0 (galleyref15_Count.l0 kq x3_1 x4_1 a0_0 a0_1 a0_2 l0_3 = some r) ∧ Aside0 (kq ≤ k) ∧ Aside0 (w'.heap[gb397]? = some (.cells #[.int .i64 a0_0, .int .i64 a0_1, .string a0_2, (.slice A0_3 l0_3.length c0_3)] 40 (0, 0))) ∧ Aside0 (Below w.heap.size w w'))
  case atStart => exact ⟨(1), (0), (by first | rfl | (simp; done) | (simp [*]; done)), (by first | rfl | (simp; done) | (simp [*]; done)), H', ⟨Nat.le_refl _⟩, ⟨by (with_reducible repeat (first | refine blk_drewN ?_ _ | refine blk_drew ?_ | refine blk_alloc ?_ _)); exact BK397.out⟩, ⟨by repeat (first | (with_reducible first | exact HB.out | apply below_alloc | apply pw_below_drewN | apply below_drew1 | refine below_set ?_ GE397.out) | exact HB.out)⟩⟩
  case round =>
    clear H'
    try clear p2
    obtain ⟨x3_1, x4_1, rfl, rfl, HA, HK1, BK397, HB⟩ := hrel
    cases gk with
    | zero => exact absurd HA.out (by simp [galleyref15_Count.l0])
    | succ k1 =>
      have H := HA.out
      clear HA
      simp only [galleyref15_Count.l0] at H
      by_cases c3 : x4_1 < (l0_3.length : Int)
      · rw [if_pos c3] at H
        have c3b0 : decide (x4_1 < (l0_3.length : Int)) = true := decide_eq_true c3
        clear c3
        by_cases c4 : 0 ≤ x4_1
        · rw [if_pos c4] at H
          have c4b0 : decide (0 ≤ x4_1) = true := decide_eq_true c4
          clear c4
          replace H := Option.bind_eq_some_iff.mp H
          obtain ⟨t399, A50, H⟩ := H
          replace H : (galleyref15_Count.l0 k1 (wrap64 (x3_1 + t399)) (wrap64 (x4_1 + 1)) a0_0 a0_1 a0_2 l0_3) = some r := H
          have A5 := Aside0.mk A50
          clear A50
          have H' := Aside0.mk H
          clear H
          have hcz6_0 : wr.cell? ⟨gb397, 0, none⟩ = some (.int .i64 a0_0) := (blk_cell BK397.out 0).trans rfl
          have hcz6_1 : wr.cell? ⟨gb397, 1, none⟩ = some (.int .i64 a0_1) := (blk_cell BK397.out 1).trans rfl
          have hcz6_2 : wr.cell? ⟨gb397, 2, none⟩ = some (.string a0_2) := (blk_cell BK397.out 2).trans rfl
          have hcz6_3 : wr.cell? ⟨gb397, 3, none⟩ = some (.slice A0_3 l0_3.length c0_3) := (blk_cell BK397.out 3).trans rfl
          have hfz6_0 := blk_frozen BK397.out 0
          have hfz6_1 := blk_frozen BK397.out 1
          have hfz6_2 := blk_frozen BK397.out 2
          have hfz6_3 := blk_frozen BK397.out 3
          have p398 : 0 ≤ (x4_1 : Int) := of_decide_eq_true (by first | (with_reducible assumption) | assumption)
          have q398 : x4_1 < (l0_3.length : Int) := of_decide_eq_true (by first | (with_reducible assumption) | assumption)
          obtain ⟨ad398, A398_3, c398_3, e398, hx398_0, hx398_1, hx398_2, hx398_3, hl398_3, hi398_3⟩ := at_T40 HR0_3.out x4_1 p398 q398
          cases e398
          replace hx398_0 := (HB.out.cell (World.block_lt_of_cell? w _ hx398_0)).trans hx398_0
          replace hx398_1 := (HB.out.cell (World.block_lt_of_cell? w _ hx398_1)).trans hx398_1
          replace hx398_2 := (HB.out.cell (World.block_lt_of_cell? w _ hx398_2)).trans hx398_2
          replace hx398_3 := (HB.out.cell (World.block_lt_of_cell? w _ hx398_3)).trans hx398_3
          have HR398_3 := Aside0.mk hi398_3
          have HC398_3 := Aside0.mk hl398_3
          clear hi398_3 hl398_3
          replace p398 := eq_true p398
          replace q398 := eq_true q398
          go_wp2_with (first | ((with_reducible refine gate_callee (f := 34) rfl ?_); refine goesL_ (some 18) rfl rfl Try.func34 (by kernel_rfl) rfl #[.agg #[.int .i64 ((rd_T40 l0_3 x4_1).f0), .int .i64 ((rd_T40 l0_3 x4_1).f1), .string ((rd_T40 l0_3 x4_1).f2), .slice A398_3 ((rd_T40 l0_3 x4_1).f3).length c398_3]] rfl (by (try simp only [List.map_toArray, List.map_cons, List.map_nil]); first | done | rfl | (simp only [List.length_drop, List.length_take]; rfl)) ?_; (with_reducible refine (ih k1 (by have := HK1.out; omega) ((rd_T40 l0_3 x4_1).f0) ((rd_T40 l0_3 x4_1).f1) ((rd_T40 l0_3 x4_1).f2) _ _ ((rd_T40 l0_3 x4_1).f3) t399 _ ?side1 ?side2 A5.out).mono ?_); (case side1 => repeat (first | exact (Kd.C_below HR398_3.out HB.out) | (with_reducible refine Kd.C_alloc ?_ _) | (with_reducible refine Kd.C_drewN ?_ _) | (with_reducible refine Kd.C_drew ?_))); (case side2 => exact HC398_3.out); rintro e w7 ⟨rfl, hb⟩; refine ⟨_, rfl, ?_⟩; have n0_ := Aside0.mk (blk_below (g := gb397) (o := .cells #[.int .i64 a0_0, .int .i64 a0_1, .string a0_2, .slice (some ad398) l0_3.length c0_3] 40 (0, 0)) (by (with_reducible repeat (first | refine blk_drewN ?_ _ | refine blk_drew ?_ | refine blk_alloc ?_ _)); exact BK397.out) hb); have n1_ := Aside0.mk (below_step (by repeat (first | (with_reducible first | exact HB.out | apply below_alloc | apply pw_below_drewN | apply below_drew1 | refine below_set ?_ GE397.out) | exact HB.out)) hb); clear BK397; clear HB; have BK397 := n0_; have HB := n1_; clear n0_ n1_; (try clear hb); (try clear hb2); (try clear hk); (try clear hi)))
          go_roundg k1
          case measure => have := HK1.out; omega
          case rel => exact ⟨(wrap64 (x3_1 + t399)), (wrap64 (x4_1 + 1)), (by first | rfl | (simp; done) | (simp [*]; done)), (by first | rfl | (simp; done) | (simp [*]; done)), H', ⟨by have := HK1.out; omega⟩, ⟨by (with_reducible repeat (first | refine blk_drewN ?_ _ | refine blk_drew ?_ | refine blk_alloc ?_ _)); exact BK397.out⟩, ⟨by repeat (first | (with_reducible first | exact HB.out | apply below_alloc | apply pw_below_drewN | apply below_drew1 | refine below_set ?_ GE397.out) | exact HB.out)⟩⟩
        · rw [if_neg c4] at H
          exact absurd H (by simp)
      · rw [if_neg c3] at H
        have c3b0 : decide (x4_1 < (l0_3.length : Int)) = false := decide_eq_false c3
        clear c3
        obtain rfl := Option.some.inj H
        have hcz8_0 : wr.cell? ⟨gb397, 0, none⟩ = some (.int .i64 a0_0) := (blk_cell BK397.out 0).trans rfl
        have hcz8_1 : wr.cell? ⟨gb397, 1, none⟩ = some (.int .i64 a0_1) := (blk_cell BK397.out 1).trans rfl
        have hcz8_2 : wr.cell? ⟨gb397, 2, none⟩ = some (.string a0_2) := (blk_cell BK397.out 2).trans rfl
        have hcz8_3 : wr.cell? ⟨gb397, 3, none⟩ = some (.slice A0_3 l0_3.length c0_3) := (blk_cell BK397.out 3).trans rfl
        have hfz8_0 := blk_frozen BK397.out 0
        have hfz8_1 := blk_frozen BK397.out 1
        have hfz8_2 := blk_frozen BK397.out 2
        have hfz8_3 := blk_frozen BK397.out 3
        go_wp2
        go_ret
        exact ⟨by first | rfl | (simp [errW_none, errW_some] <;> rfl) | (simp [*, errW_none, errW_some] <;> rfl), by repeat (first | (with_reducible first | exact HB.out | apply below_alloc | apply pw_below_drewN | apply below_drew1 | refine below_set ?_ GE397.out) | exact HB.out)⟩

/-! ### galleyref15_deep: function 51 -/
mutual
def galleyref15_deep.l0 : Nat → Int → Int → Int → Int → Int → ByteArray → List (S40) → Option (Int)
  | 0, _, _, _, _, _, _, _ => none
  | k + 1, x1, x5, x6, x401000, x401001, x401002, x401003 => if x6 < (x401003.length : Int) then (if x1 > 0 then (if 0 ≤ x6 then ((galleyref15_deep.f k ((rd_T40 x401003 x6).f0) ((rd_T40 x401003 x6).f1) ((rd_T40 x401003 x6).f2) ((rd_T40 x401003 x6).f3) (wrap64 (x1 - 1))).bind fun t402 => (galleyref15_deep.l0 k x1 (mx x5 t402) (wrap64 (x6 + 1)) x401000 x401001 x401002 x401003)) else (none)) else (some (wrap64 (x5 + 1)))) else (some (wrap64 (x5 + 1)))
def galleyref15_deep.f : Nat → Int → Int → ByteArray → List (S40) → Int → Option (Int)
  | 0, _, _, _, _, _ => none
  | k + 1, a0_0, a0_1, a0_2, l0_3, a1 => galleyref15_deep.l0 k a1 0 0 a0_0 a0_1 a0_2 l0_3
end
theorem galleyref15_deep.mono_l : ∀ k, (∀ y0 y1 y2 y3 y4, LeO (galleyref15_deep.f k y0 y1 y2 y3 y4) (galleyref15_deep.f (k + 1) y0 y1 y2 y3 y4)) ∧ (∀ y0 y1 y2 y3 y4 y5 y6, LeO (galleyref15_deep.l0 k y0 y1 y2 y3 y4 y5 y6) (galleyref15_deep.l0 (k + 1) y0 y1 y2 y3 y4 y5 y6))
  | 0 => ⟨fun _ _ _ _ _ r h => by simp [galleyref15_deep.f] at h, fun _ _ _ _ _ _ _ r h => by simp [galleyref15_deep.l0] at h⟩
  | k + 1 => by
    obtain ⟨ih0, ih1⟩ := galleyref15_deep.mono_l k
    refine ⟨?_, ?_⟩
    · intro y0 y1 y2 y3 y4
      unfold galleyref15_deep.f
      repeat' first
      | (with_reducible exact ih0 _ _ _ _ _)
      | (with_reducible exact ih1 _ _ _ _ _ _ _)
      | (with_reducible exact LeO.refl _)
      | (with_reducible exact LeO.none _)
      | (with_reducible refine LeO.ite ?_ ?_)
      | (with_reducible refine LeO.bind ?_ (fun _ => ?_))
      | exact ih0 _ _ _ _ _
      | exact ih1 _ _ _ _ _ _ _
      | exact LeO.none _
      | refine LeO.ite ?_ ?_
      | refine LeO.bind ?_ (fun _ => ?_)
    · intro y0 y1 y2 y3 y4 y5 y6
      unfold galleyref15_deep.l0
      repeat' first
      | (with_reducible exact ih0 _ _ _ _ _)
      | (with_reducible exact ih1 _ _ _ _ _ _ _)
      | (with_reducible exact LeO.refl _)
      | (with_reducible exact LeO.none _)
      | (with_reducible refine LeO.ite ?_ ?_)
      | (with_reducible refine LeO.bind ?_ (fun _ => ?_))
      | exact ih0 _ _ _ _ _
      | exact ih1 _ _ _ _ _ _ _
      | exact LeO.none _
      | refine LeO.ite ?_ ?_
      | refine LeO.bind ?_ (fun _ => ?_)
theorem galleyref15_deep.mono : ∀ a0 a1 a2 a3 a4 k, LeO (galleyref15_deep.f k a0 a1 a2 a3 a4) (galleyref15_deep.f (k + 1) a0 a1 a2 a3 a4) := by
  intro a0 a1 a2 a3 a4 k
  obtain ⟨ih0, ih1⟩ := galleyref15_deep.mono_l k
  exact ih0 a0 a1 a2 a3 a4
set_option maxHeartbeats 8000000 in
set_option maxRecDepth 100000 in
theorem galleyref15_deep.calls (k : Nat) : ∀ (a0_0 : Int) (a0_1 : Int) (a0_2 : ByteArray) (A0_3 : Option Addr) (c0_3 : Nat) (l0_3 : List (S40)) (a1 : Int) (r : Int) (w : World) (hr0_3 : Kd.C k40 w A0_3 l0_3.length l0_3) (hc0_3 : l0_3.length ≤ c0_3) (h : galleyref15_deep.f k a0_0 a0_1 a0_2 l0_3 a1 = some r),
    Calls Try.prog 51 #[.agg #[.int .i64 a0_0, .int .i64 a0_1, .string a0_2, .slice A0_3 l0_3.length c0_3], .int .i64 a1] w fun e w' => e = .returned (.int .i64 r) ∧ Below w.heap.size w w' := by
  induction k using Nat.strongRecOn with
  | _ k ih =>
  intro a0_0 a0_1 a0_2 A0_3 c0_3 l0_3 a1 r w hr0_3 hc0_3 h
  cases k with
  | zero => exact absurd h (by simp [galleyref15_deep.f])
  | succ k =>
  simp only [galleyref15_deep.f] at h
  have hu40 := Try.underlying40
  have HR0_3 := Aside0.mk hr0_3
  have HC0_3 := Aside0.mk hc0_3
  clear hr0_3 hc0_3
  have HB := Aside0.mk (Below.refl w.heap.size w)
  have H : (galleyref15_deep.l0 k a1 0 0 a0_0 a0_1 a0_2 l0_3) = some r := h
  clear h
  have H' := Aside0.mk H
  clear H
  go_enter Try.func51, Try.ntmps51
  go_wp2_with (first | ((with_reducible refine gate_dst (N := 2) rfl ?_); refine box_event ?hg (N := 2) ?hd (cs := #[.int .i64 a0_0, .int .i64 a0_1, .string a0_2, .slice A0_3 l0_3.length c0_3]) (t := 40) ?hr ?_; (case hd => rfl); (case hg => rfl); (case hr => first | (go_simp; done) | (go_simp; rfl)); intro gb400 hg w3 hbox hb; have n0_ := Aside0.mk (below_step (by repeat (first | (with_reducible first | exact HB.out | apply below_alloc | apply pw_below_drewN | apply below_drew1) | exact HB.out)) hb); have n1_ := Aside0.mk (hbox); have n2_ := Aside0.mk ((by rw [hg]; exact (below_size (by repeat (first | (with_reducible first | exact HB.out | apply below_alloc | apply pw_below_drewN | apply below_drew1) | exact HB.out))) : w.heap.size ≤ gb400)); have n3_ := Aside0.mk ((by rw [hg]; exact (below_size (by repeat (first | (with_reducible first | exact HB.out | apply below_alloc | apply pw_below_drewN | apply below_drew1) | exact HB.out))) : w.heap.size ≤ gb400)); clear HB; have HB := n0_; have BK400 := n1_; have GW400 := n2_; have GE400 := n3_; clear n0_ n1_ n2_ n3_; clear hb hbox hg))
  go_loopg [5, 6] k (fun kq v5 v6 w' => ∃ (x5_1 : Int) (x6_1 : Int), v5 = .int .i64 x5_1 ∧ v6 = .int .i64 x6_1 ∧ Aside0 (galleyref15_deep.l0 kq a1 x5_1 x6_1 a0_0 a0_1 a0_2 l0_3 = some r) ∧ Aside0 (kq ≤ k) ∧ Aside0 (w'.heap[gb400]? = some (.cells #[.int .i64 a0_0, .int .i64 a0_1, .string a0_2, (.slice A0_3 l0_3.length c0_3)] 40 (0, 0))) ∧ Aside0 (Below w.heap.size w w'))
  case atStart => exact ⟨(0), (0), (by first | rfl | (simp; done) | (simp [*]; done)), (by first | rfl | (simp; done) | (simp [*]; done)), H', ⟨Nat.le_refl _⟩, ⟨by (with_reducible repeat (first | refine blk_drewN ?_ _ | refine blk_drew ?_ | refine blk_alloc ?_ _)); exact BK400.out⟩, ⟨by repeat (first | (with_reducible first | exact HB.out | apply below_alloc | apply pw_below_drewN | apply below_drew1 | refine below_set ?_ GE400.out) | exact HB.out)⟩⟩
  case round =>
    clear H'
    try clear p2
    obtain ⟨x5_1, x6_1, rfl, rfl, HA, HK1, BK400, HB⟩ := hrel
    cases gk with
    | zero => exact absurd HA.out (by simp [galleyref15_deep.l0])
    | succ k1 =>
      have H := HA.out
      clear HA
      simp only [galleyref15_deep.l0] at H
      by_cases c4 : x6_1 < (l0_3.length : Int)
      · rw [if_pos c4] at H
        have c4b0 : decide (x6_1 < (l0_3.length : Int)) = true := decide_eq_true c4
        clear c4
        by_cases c5 : a1 > 0
        · rw [if_pos c5] at H
          have c5b0 : decide (0 < a1) = true := decide_eq_true c5
          clear c5
          by_cases c6 : 0 ≤ x6_1
          · rw [if_pos c6] at H
            have c6b0 : decide (0 ≤ x6_1) = true := decide_eq_true c6
            clear c6
            replace H := Option.bind_eq_some_iff.mp H
            obtain ⟨t402, A70, H⟩ := H
            replace H : (galleyref15_deep.l0 k1 a1 (mx x5_1 t402) (wrap64 (x6_1 + 1)) a0_0 a0_1 a0_2 l0_3) = some r := H
            have A7 := Aside0.mk A70
            clear A70
            obtain ⟨ji8, hji8⟩ : ∃ j_ : Int, (mx x5_1 t402) = j_ := ⟨_, rfl⟩
            replace H : (galleyref15_deep.l0 k1 a1 ji8 (wrap64 (x6_1 + 1)) a0_0 a0_1 a0_2 l0_3) = some r := by first | (rw [hji8] at H; exact H) | (simp only [hji8] at H ⊢; exact H)
            (try rw [hji8] at A7)
            have hji8_ : (if x5_1 < t402 then t402 else x5_1) = ji8 := hji8
            have H' := Aside0.mk H
            clear H
            have hcz9_0 : wr.cell? ⟨gb400, 0, none⟩ = some (.int .i64 a0_0) := (blk_cell BK400.out 0).trans rfl
            have hcz9_1 : wr.cell? ⟨gb400, 1, none⟩ = some (.int .i64 a0_1) := (blk_cell BK400.out 1).trans rfl
            have hcz9_2 : wr.cell? ⟨gb400, 2, none⟩ = some (.string a0_2) := (blk_cell BK400.out 2).trans rfl
            have hcz9_3 : wr.cell? ⟨gb400, 3, none⟩ = some (.slice A0_3 l0_3.length c0_3) := (blk_cell BK400.out 3).trans rfl
            have hfz9_0 := blk_frozen BK400.out 0
            have hfz9_1 := blk_frozen BK400.out 1
            have hfz9_2 := blk_frozen BK400.out 2
            have hfz9_3 := blk_frozen BK400.out 3
            have p401 : 0 ≤ (x6_1 : Int) := of_decide_eq_true (by first | (with_reducible assumption) | assumption)
            have q401 : x6_1 < (l0_3.length : Int) := of_decide_eq_true (by first | (with_reducible assumption) | assumption)
            obtain ⟨ad401, A401_3, c401_3, e401, hx401_0, hx401_1, hx401_2, hx401_3, hl401_3, hi401_3⟩ := at_T40 HR0_3.out x6_1 p401 q401
            cases e401
            replace hx401_0 := (HB.out.cell (World.block_lt_of_cell? w _ hx401_0)).trans hx401_0
            replace hx401_1 := (HB.out.cell (World.block_lt_of_cell? w _ hx401_1)).trans hx401_1
            replace hx401_2 := (HB.out.cell (World.block_lt_of_cell? w _ hx401_2)).trans hx401_2
            replace hx401_3 := (HB.out.cell (World.block_lt_of_cell? w _ hx401_3)).trans hx401_3
            have HR401_3 := Aside0.mk hi401_3
            have HC401_3 := Aside0.mk hl401_3
            clear hi401_3 hl401_3
            replace p401 := eq_true p401
            replace q401 := eq_true q401
            go_wp2_with (first | ((with_reducible refine gate_callee (f := 51) rfl ?_); refine goesL_ (some 26) rfl rfl Try.func51 (by kernel_rfl) rfl #[.agg #[.int .i64 ((rd_T40 l0_3 x6_1).f0), .int .i64 ((rd_T40 l0_3 x6_1).f1), .string ((rd_T40 l0_3 x6_1).f2), .slice A401_3 ((rd_T40 l0_3 x6_1).f3).length c401_3], .int .i64 (wrap64 (a1 - 1))] rfl (by (try simp only [List.map_toArray, List.map_cons, List.map_nil]); first | done | rfl | (simp only [List.length_drop, List.length_take]; rfl)) ?_; (with_reducible refine (ih k1 (by have := HK1.out; omega) ((rd_T40 l0_3 x6_1).f0) ((rd_T40 l0_3 x6_1).f1) ((rd_T40 l0_3 x6_1).f2) _ _ ((rd_T40 l0_3 x6_1).f3) (wrap64 (a1 - 1)) t402 _ ?side1 ?side2 A7.out).mono ?_); (case side1 => repeat (first | exact (Kd.C_below HR401_3.out HB.out) | (with_reducible refine Kd.C_alloc ?_ _) | (with_reducible refine Kd.C_drewN ?_ _) | (with_reducible refine Kd.C_drew ?_))); (case side2 => exact HC401_3.out); rintro e w10 ⟨rfl, hb⟩; refine ⟨_, rfl, ?_⟩; have n0_ := Aside0.mk (blk_below (g := gb400) (o := .cells #[.int .i64 a0_0, .int .i64 a0_1, .string a0_2, .slice (some ad401) l0_3.length c0_3] 40 (0, 0)) (by (with_reducible repeat (first | refine blk_drewN ?_ _ | refine blk_drew ?_ | refine blk_alloc ?_ _)); exact BK400.out) hb); have n1_ := Aside0.mk (below_step (by repeat (first | (with_reducible first | exact HB.out | apply below_alloc | apply pw_below_drewN | apply below_drew1 | refine below_set ?_ GE400.out) | exact HB.out)) hb); clear BK400; clear HB; have BK400 := n0_; have HB := n1_; clear n0_ n1_; (try clear hb); (try clear hb2); (try clear hk); (try clear hi)))
            go_roundg k1
            case measure => have := HK1.out; omega
            case rel => exact ⟨(ji8), (wrap64 (x6_1 + 1)), (by first | rfl | (simp; done) | (simp only [← hji8] <;> (first | rfl | simp)) | (simp [*]; done)), (by first | rfl | (simp; done) | (simp [*]; done)), H', ⟨by have := HK1.out; omega⟩, ⟨by (with_reducible repeat (first | refine blk_drewN ?_ _ | refine blk_drew ?_ | refine blk_alloc ?_ _)); exact BK400.out⟩, ⟨by repeat (first | (with_reducible first | exact HB.out | apply below_alloc | apply pw_below_drewN | apply below_drew1 | refine below_set ?_ GE400.out) | exact HB.out)⟩⟩
          · rw [if_neg c6] at H
            exact absurd H (by simp)
        · rw [if_neg c5] at H
          have c5b0 : decide (0 < a1) = false := decide_eq_false c5
          clear c5
          obtain rfl := Option.some.inj H
          have hcz11_0 : wr.cell? ⟨gb400, 0, none⟩ = some (.int .i64 a0_0) := (blk_cell BK400.out 0).trans rfl
          have hcz11_1 : wr.cell? ⟨gb400, 1, none⟩ = some (.int .i64 a0_1) := (blk_cell BK400.out 1).trans rfl
          have hcz11_2 : wr.cell? ⟨gb400, 2, none⟩ = some (.string a0_2) := (blk_cell BK400.out 2).trans rfl
          have hcz11_3 : wr.cell? ⟨gb400, 3, none⟩ = some (.slice A0_3 l0_3.length c0_3) := (blk_cell BK400.out 3).trans rfl
          have hfz11_0 := blk_frozen BK400.out 0
          have hfz11_1 := blk_frozen BK400.out 1
          have hfz11_2 := blk_frozen BK400.out 2
          have hfz11_3 := blk_frozen BK400.out 3
          go_wp2
          go_ret
          exact ⟨by first | rfl | (simp [errW_none, errW_some] <;> rfl) | (simp [*, errW_none, errW_some] <;> rfl), by repeat (first | (with_reducible first | exact HB.out | apply below_alloc | apply pw_below_drewN | apply below_drew1 | refine below_set ?_ GE400.out) | exact HB.out)⟩
      · rw [if_neg c4] at H
        have c4b0 : decide (x6_1 < (l0_3.length : Int)) = false := decide_eq_false c4
        clear c4
        obtain rfl := Option.some.inj H
        have hcz12_0 : wr.cell? ⟨gb400, 0, none⟩ = some (.int .i64 a0_0) := (blk_cell BK400.out 0).trans rfl
        have hcz12_1 : wr.cell? ⟨gb400, 1, none⟩ = some (.int .i64 a0_1) := (blk_cell BK400.out 1).trans rfl
        have hcz12_2 : wr.cell? ⟨gb400, 2, none⟩ = some (.string a0_2) := (blk_cell BK400.out 2).trans rfl
        have hcz12_3 : wr.cell? ⟨gb400, 3, none⟩ = some (.slice A0_3 l0_3.length c0_3) := (blk_cell BK400.out 3).trans rfl
        have hfz12_0 := blk_frozen BK400.out 0
        have hfz12_1 := blk_frozen BK400.out 1
        have hfz12_2 := blk_frozen BK400.out 2
        have hfz12_3 := blk_frozen BK400.out 3
        go_wp2
        go_ret
        exact ⟨by first | rfl | (simp [errW_none, errW_some] <;> rfl) | (simp [*, errW_none, errW_some] <;> rfl), by repeat (first | (with_reducible first | exact HB.out | apply below_alloc | apply pw_below_drewN | apply below_drew1 | refine below_set ?_ GE400.out) | exact HB.out)⟩

end Go.Proofs.Ytjlnlonioknkhaa.PA

/- Printed by this session's driver of the kit's printer (stubbed functions are proved by hand). Lean checks it. -/
import Derived.Test.YtjlnlonioknkhaaPAx0
namespace Go.Proofs.Ytjlnlonioknkhaa.PA
open Go.RowKit Go.Proofs.YtjlnlonioknkhaaW.PrintWords Go.Proofs.YtjlnlonioknkhaaW.PrintLast Go.Proofs.YtjlnlonioknkhaaW.PrintMore
attribute [local go_sem] max2_int min2_int max_two min_two max_three min_three max_four min_four   -- for this text's walks alone
set_option linter.unusedVariables false
set_option linter.unusedSimpArgs false

/-! ### galleylaw15_few: function 49 -/
mutual
def galleylaw15_few.j0 : Nat → Int → Bool → Int → Int → ByteArray → List (S40) → Option (Int)
  | 0, _, _, _, _, _, _ => none
  | k + 1, x1, x20, x391000, x391001, x391002, x391003 => if x20 = true then (some 1000) else (galleylaw15_few.l0 k x1 1 0 x391000 x391001 x391002 x391003)
def galleylaw15_few.l0 : Nat → Int → Int → Int → Int → Int → ByteArray → List (S40) → Option (Int)
  | 0, _, _, _, _, _, _, _ => none
  | k + 1, x1, x5, x6, x391000, x391001, x391002, x391003 => if x6 < (x391003.length : Int) then (if x5 < 1000 then (if 0 ≤ x6 then ((galleylaw15_few.f k ((rd_T40 x391003 x6).f0) ((rd_T40 x391003 x6).f1) ((rd_T40 x391003 x6).f2) ((rd_T40 x391003 x6).f3) (wrap64 (x1 - 1))).bind fun t392 => (galleylaw15_few.l0 k x1 (wrap64 (x5 + t392)) (wrap64 (x6 + 1)) x391000 x391001 x391002 x391003)) else (none)) else (some x5)) else (some x5)
def galleylaw15_few.f : Nat → Int → Int → ByteArray → List (S40) → Int → Option (Int)
  | 0, _, _, _, _, _ => none
  | k + 1, a0_0, a0_1, a0_2, l0_3, a1 => if a1 = 0 then (galleylaw15_few.j0 k a1 true a0_0 a0_1 a0_2 l0_3) else (if (a0_2.size : Int) > 100 then (galleylaw15_few.j0 k a1 true a0_0 a0_1 a0_2 l0_3) else (galleylaw15_few.j0 k a1 (decide ((l0_3.length : Int) > 500)) a0_0 a0_1 a0_2 l0_3))
end
theorem galleylaw15_few.mono_l : ∀ k, (∀ y0 y1 y2 y3 y4, LeO (galleylaw15_few.f k y0 y1 y2 y3 y4) (galleylaw15_few.f (k + 1) y0 y1 y2 y3 y4)) ∧ (∀ y0 y1 y2 y3 y4 y5, LeO (galleylaw15_few.j0 k y0 y1 y2 y3 y4 y5) (galleylaw15_few.j0 (k + 1) y0 y1 y2 y3 y4 y5)) ∧ (∀ y0 y1 y2 y3 y4 y5 y6, LeO (galleylaw15_few.l0 k y0 y1 y2 y3 y4 y5 y6) (galleylaw15_few.l0 (k + 1) y0 y1 y2 y3 y4 y5 y6))
  | 0 => ⟨fun _ _ _ _ _ r h => by simp [galleylaw15_few.f] at h, fun _ _ _ _ _ _ r h => by simp [galleylaw15_few.j0] at h, fun _ _ _ _ _ _ _ r h => by simp [galleylaw15_few.l0] at h⟩
  | k + 1 => by
    obtain ⟨ih0, ih1, ih2⟩ := galleylaw15_few.mono_l k
    refine ⟨?_, ?_, ?_⟩
    · intro y0 y1 y2 y3 y4
      unfold galleylaw15_few.f
      repeat' first
      | (with_reducible exact ih0 _ _ _ _ _)
      | (with_reducible exact ih1 _ _ _ _ _ _)
      | (with_reducible exact ih2 _ _ _ _ _ _ _)
      | (with_reducible exact LeO.refl _)
      | (with_reducible exact LeO.none _)
      | (with_reducible refine LeO.ite ?_ ?_)
      | (with_reducible refine LeO.bind ?_ (fun _ => ?_))
      | exact ih0 _ _ _ _ _
      | exact ih1 _ _ _ _ _ _
      | exact ih2 _ _ _ _ _ _ _
      | exact LeO.none _
      | refine LeO.ite ?_ ?_
      | refine LeO.bind ?_ (fun _ => ?_)
    · intro y0 y1 y2 y3 y4 y5
      unfold galleylaw15_few.j0
      repeat' first
      | (with_reducible exact ih0 _ _ _ _ _)
      | (with_reducible exact ih1 _ _ _ _ _ _)
      | (with_reducible exact ih2 _ _ _ _ _ _ _)
      | (with_reducible exact LeO.refl _)
      | (with_reducible exact LeO.none _)
      | (with_reducible refine LeO.ite ?_ ?_)
      | (with_reducible refine LeO.bind ?_ (fun _ => ?_))
      | exact ih0 _ _ _ _ _
      | exact ih1 _ _ _ _ _ _
      | exact ih2 _ _ _ _ _ _ _
      | exact LeO.none _
      | refine LeO.ite ?_ ?_
      | refine LeO.bind ?_ (fun _ => ?_)
    · intro y0 y1 y2 y3 y4 y5 y6
      unfold galleylaw15_few.l0
      repeat' first
      | (with_reducible exact ih0 _ _ _ _ _)
      | (with_reducible exact ih1 _ _ _ _ _ _)
      | (with_reducible exact ih2 _ _ _ _ _ _ _)
      | (with_reducible exact LeO.refl _)
      | (with_reducible exact LeO.none _)
      | (with_reducible refine LeO.ite ?_ ?_)
      | (with_reducible refine LeO.bind ?_ (fun _ => ?_))
      | exact ih0 _ _ _ _ _
      | exact ih1 _ _ _ _ _ _
      | exact ih2 _ _ _ _ _ _ _
      | exact LeO.none _
      | refine LeO.ite ?_ ?_
      | refine LeO.bind ?_ (fun _ => ?_)
theorem galleylaw15_few.mono : ∀ a0 a1 a2 a3 a4 k, LeO (galleylaw15_few.f k a0 a1 a2 a3 a4) (galleylaw15_few.f (k + 1) a0 a1 a2 a3 a4) := by
  intro a0 a1 a2 a3 a4 k
  obtain ⟨ih0, ih1, ih2⟩ := galleylaw15_few.mono_l k
  exact ih0 a0 a1 a2 a3 a4
set_option maxHeartbeats 8000000 in
set_option maxRecDepth 100000 in
theorem galleylaw15_few.calls (k : Nat) : ∀ (a0_0 : Int) (a0_1 : Int) (a0_2 : ByteArray) (A0_3 : Option Addr) (c0_3 : Nat) (l0_3 : List (S40)) (a1 : Int) (r : Int) (w : World) (hr0_3 : Kd.C k40 w A0_3 l0_3.length l0_3) (hc0_3 : l0_3.length ≤ c0_3) (h : galleylaw15_few.f k a0_0 a0_1 a0_2 l0_3 a1 = some r),
    Calls Try.prog 49 #[.agg #[.int .i64 a0_0, .int .i64 a0_1, .string a0_2, .slice A0_3 l0_3.length c0_3], .int .i64 a1] w fun e w' => e = .returned (.int .i64 r) ∧ Below w.heap.size w w' := by
  induction k using Nat.strongRecOn with
  | _ k ih =>
  intro a0_0 a0_1 a0_2 A0_3 c0_3 l0_3 a1 r w hr0_3 hc0_3 h
  cases k with
  | zero => exact absurd h (by simp [galleylaw15_few.f])
  | succ k =>
  simp only [galleylaw15_few.f] at h
  have hu40 := Try.underlying40
  have HR0_3 := Aside0.mk hr0_3
  have HC0_3 := Aside0.mk hc0_3
  clear hr0_3 hc0_3
  have HB := Aside0.mk (Below.refl w.heap.size w)
  have H : (if a1 = 0 then (galleylaw15_few.j0 k a1 true a0_0 a0_1 a0_2 l0_3) else (if (a0_2.size : Int) > 100 then (galleylaw15_few.j0 k a1 true a0_0 a0_1 a0_2 l0_3) else (galleylaw15_few.j0 k a1 (decide ((l0_3.length : Int) > 500)) a0_0 a0_1 a0_2 l0_3))) = some r := h
  clear h
  have HC3 := Aside0.mk H
  clear H
  go_enter Try.func49, Try.ntmps49
  go_upto_region 1 with (first | ((with_reducible refine gate_dst (N := 2) rfl ?_); (try (refine gate_guard (by rfl) ?_; dsimp only)); refine box_event ?hg (N := 2) ?hd (cs := #[.int .i64 a0_0, .int .i64 a0_1, .string a0_2, .slice A0_3 l0_3.length c0_3]) (t := 40) ?hr ?_; (case hd => rfl); (case hg => rfl); (case hr => first | (go_simp; done) | (go_simp; rfl)); intro gb390 hg w4 hbox hb; have n0_ := Aside0.mk (below_step (by repeat (first | (with_reducible first | exact HB.out | apply below_alloc | apply pw_below_drewN | apply below_drew1) | exact HB.out)) hb); have n1_ := Aside0.mk (hbox); have n2_ := Aside0.mk ((by rw [hg]; exact (below_size (by repeat (first | (with_reducible first | exact HB.out | apply below_alloc | apply pw_below_drewN | apply below_drew1) | exact HB.out))) : w.heap.size ≤ gb390)); have n3_ := Aside0.mk ((by rw [hg]; exact (below_size (by repeat (first | (with_reducible first | exact HB.out | apply below_alloc | apply pw_below_drewN | apply below_drew1) | exact HB.out))) : w.heap.size ≤ gb390)); clear HB; have HB := n0_; have BK390 := n1_; have GW390 := n2_; have GE390 := n3_; clear n0_ n1_ n2_ n3_; clear hb hbox hg))
  (try simp only [Act.put, List.setIfInBounds_toArray, List.set_cons_zero, List.set_cons_succ])
  go_cut [20] (fun v20 wc => ∃ (kq : Nat) (x20_2 : Bool), v20 = .bool x20_2 ∧ Aside0 (galleylaw15_few.j0 kq a1 x20_2 a0_0 a0_1 a0_2 l0_3 = some r) ∧ Aside0 (kq ≤ k) ∧ Aside0 (wc.heap[gb390]? = some (.cells #[.int .i64 a0_0, .int .i64 a0_1, .string a0_2, (.slice A0_3 l0_3.length c0_3)] 40 (0, 0))) ∧ Aside0 (Below w.heap.size w wc))
  case first =>
    have H := HC3.out
    clear HC3
    by_cases c5 : a1 = 0
    · rw [if_pos c5] at H
      have c5b0 : (a1 == 0) = true := beq_iff_eq.mpr c5
      have c5b1 : (a1 != 0) = false := bne_eq_false_iff_eq.mpr c5
      clear c5
      (first | rw [c5b0] | (simp only [i64_w, i32_w]; rw [c5b0]) | skip)
      have H' := Aside0.mk H
      clear H
      go_wp2
      go_meet
      case rel => exact ⟨_, (true), (by first | rfl | (simp; done) | (simp [*]; done)), H', ⟨by first | omega | exact Nat.le_refl _⟩, ⟨by (with_reducible repeat (first | refine blk_drewN ?_ _ | refine blk_drew ?_ | refine blk_alloc ?_ _)); exact BK390.out⟩, ⟨by repeat (first | (with_reducible first | exact HB.out | apply below_alloc | apply pw_below_drewN | apply below_drew1 | refine below_set ?_ GE390.out) | exact HB.out)⟩⟩
    · rw [if_neg c5] at H
      have c5b0 : (a1 == 0) = false := beq_eq_false_iff_ne.mpr c5
      have c5b1 : (a1 != 0) = true := bne_iff_ne.mpr c5
      (first | rw [c5b0] | (simp only [i64_w, i32_w]; rw [c5b0]) | skip)
      by_cases c6 : (a0_2.size : Int) > 100
      · rw [if_pos c6] at H
        have c6b0 : decide (100 < (a0_2.size : Int)) = true := decide_eq_true c6
        have c6b1 : decide (100 < a0_2.size) = true := decide_eq_true (by omega)
        clear c6
        have H' := Aside0.mk H
        clear H
        have hcz7_0 : w4.cell? ⟨gb390, 0, none⟩ = some (.int .i64 a0_0) := (blk_cell BK390.out 0).trans rfl
        have hcz7_1 : w4.cell? ⟨gb390, 1, none⟩ = some (.int .i64 a0_1) := (blk_cell BK390.out 1).trans rfl
        have hcz7_2 : w4.cell? ⟨gb390, 2, none⟩ = some (.string a0_2) := (blk_cell BK390.out 2).trans rfl
        have hcz7_3 : w4.cell? ⟨gb390, 3, none⟩ = some (.slice A0_3 l0_3.length c0_3) := (blk_cell BK390.out 3).trans rfl
        have hfz7_0 := blk_frozen BK390.out 0
        have hfz7_1 := blk_frozen BK390.out 1
        have hfz7_2 := blk_frozen BK390.out 2
        have hfz7_3 := blk_frozen BK390.out 3
        go_wp2
        go_meet
        case rel => exact ⟨_, (true), (by first | rfl | (simp; done) | (simp [*]; done)), H', ⟨by first | omega | exact Nat.le_refl _⟩, ⟨by (with_reducible repeat (first | refine blk_drewN ?_ _ | refine blk_drew ?_ | refine blk_alloc ?_ _)); exact BK390.out⟩, ⟨by repeat (first | (with_reducible first | exact HB.out | apply below_alloc | apply pw_below_drewN | apply below_drew1 | refine below_set ?_ GE390.out) | exact HB.out)⟩⟩
      · rw [if_neg c6] at H
        have c6b0 : decide (100 < (a0_2.size : Int)) = false := decide_eq_false c6
        have c6b1 : decide (100 < a0_2.size) = false := decide_eq_false (by omega)
        clear c6
        have H' := Aside0.mk H
        clear H
        have hcz8_0 : w4.cell? ⟨gb390, 0, none⟩ = some (.int .i64 a0_0) := (blk_cell BK390.out 0).trans rfl
        have hcz8_1 : w4.cell? ⟨gb390, 1, none⟩ = some (.int .i64 a0_1) := (blk_cell BK390.out 1).trans rfl
        have hcz8_2 : w4.cell? ⟨gb390, 2, none⟩ = some (.string a0_2) := (blk_cell BK390.out 2).trans rfl
        have hcz8_3 : w4.cell? ⟨gb390, 3, none⟩ = some (.slice A0_3 l0_3.length c0_3) := (blk_cell BK390.out 3).trans rfl
        have hfz8_0 := blk_frozen BK390.out 0
        have hfz8_1 := blk_frozen BK390.out 1
        have hfz8_2 := blk_frozen BK390.out 2
        have hfz8_3 := blk_frozen BK390.out 3
        go_wp2
        go_meet
        case rel => exact ⟨_, (decide ((l0_3.length : Int) > 500)), (by first | rfl | (simp; done) | (simp [*]; done)), H', ⟨by first | omega | exact Nat.le_refl _⟩, ⟨by (with_reducible repeat (first | refine blk_drewN ?_ _ | refine blk_drew ?_ | refine blk_alloc ?_ _)); exact BK390.out⟩, ⟨by repeat (first | (with_reducible first | exact HB.out | apply below_alloc | apply pw_below_drewN | apply below_drew1 | refine below_set ?_ GE390.out) | exact HB.out)⟩⟩
  case rest =>
    clear HC3
    try clear p2
    try clear c4
    try clear c5
    try clear c5b0
    try clear c5b1
    try clear c6
    try clear c6b0
    try clear c6b1
    try clear hcz7_0
    try clear hcz7_1
    try clear hcz7_2
    try clear hcz7_3
    try clear hcz8_0
    try clear hcz8_1
    try clear hcz8_2
    try clear hcz8_3
    try clear hfz7_0
    try clear hfz7_1
    try clear hfz7_2
    try clear hfz7_3
    try clear hfz8_0
    try clear hfz8_1
    try clear hfz8_2
    try clear hfz8_3
    obtain ⟨kq, x20_2, rfl, HA, HJ2, BK390, HB⟩ := hcut
    cases kq with
    | zero => exact absurd HA.out (by simp [galleylaw15_few.j0])
    | succ kj2 =>
      have H := HA.out
      clear HA
      simp only [galleylaw15_few.j0] at H
      by_cases c9 : x20_2 = true
      · subst c9
        have H1 : (some 1000) = some r := by rw [if_pos rfl] at H; exact H
        clear H
        have H := H1
        clear H1
        obtain rfl := Option.some.inj H
        go_wp2
        go_ret
        exact ⟨by first | rfl | (simp [errW_none, errW_some] <;> rfl) | (simp [*, errW_none, errW_some] <;> rfl), by repeat (first | (with_reducible first | exact HB.out | apply below_alloc | apply pw_below_drewN | apply below_drew1 | refine below_set ?_ GE390.out) | exact HB.out)⟩
      · replace c9 := Bool.eq_false_iff.mpr c9
        subst c9
        have H1 : (galleylaw15_few.l0 kj2 a1 1 0 a0_0 a0_1 a0_2 l0_3) = some r := by rw [if_neg (show ¬ (false = true) by decide)] at H; exact H
        clear H
        have H := H1
        clear H1
        have H' := Aside0.mk H
        clear H
        go_wp2
        go_loopg [5, 6] kj2 (fun kq v5 v6 w' => ∃ (x5_2 : Int) (x6_2 : Int), v5 = .int .i64 x5_2 ∧ v6 = .int .i64 x6_2 ∧ Aside0 (galleylaw15_few.l0 kq a1 x5_2 x6_2 a0_0 a0_1 a0_2 l0_3 = some r) ∧ Aside0 (kq ≤ kj2) ∧ Aside0 (w'.heap[gb390]? = some (.cells #[.int .i64 a0_0, .int .i64 a0_1, .string a0_2, (.slice A0_3 l0_3.length c0_3)] 40 (0, 0))) ∧ Aside0 (Below w.heap.size w w'))
        case atStart => exact ⟨(1), (0), (by first | rfl | (simp; done) | (simp [*]; done)), (by first | rfl | (simp; done) | (simp [*]; done)), H', ⟨Nat.le_refl _⟩, ⟨by (with_reducible repeat (first | refine blk_drewN ?_ _ | refine blk_drew ?_ | refine blk_alloc ?_ _)); exact BK390.out⟩, ⟨by repeat (first | (with_reducible first | exact HB.out | apply below_alloc | apply pw_below_drewN | apply below_drew1 | refine below_set ?_ GE390.out) | exact HB.out)⟩⟩
        case round =>
          clear H'
          try clear p2
          try clear c4
          try clear c5
          try clear c5b0
          try clear c5b1
          try clear c6
          try clear c6b0
          try clear c6b1
          try clear c9
          try clear hcz7_0
          try clear hcz7_1
          try clear hcz7_2
          try clear hcz7_3
          try clear hcz8_0
          try clear hcz8_1
          try clear hcz8_2
          try clear hcz8_3
          try clear hfz7_0
          try clear hfz7_1
          try clear hfz7_2
          try clear hfz7_3
          try clear hfz8_0
          try clear hfz8_1
          try clear hfz8_2
          try clear hfz8_3
          try clear p2
          obtain ⟨x5_2, x6_2, rfl, rfl, HA, HK2, BK390, HB⟩ := hrel
          cases gk with
          | zero => exact absurd HA.out (by simp [galleylaw15_few.l0])
          | succ k2 =>
            have H := HA.out
            clear HA
            simp only [galleylaw15_few.l0] at H
            by_cases c10 : x6_2 < (l0_3.length : Int)
            · rw [if_pos c10] at H
              have c10b0 : decide (x6_2 < (l0_3.length : Int)) = true := decide_eq_true c10
              clear c10
              by_cases c11 : x5_2 < 1000
              · rw [if_pos c11] at H
                have c11b0 : decide (x5_2 < 1000) = true := decide_eq_true c11
                clear c11
                by_cases c12 : 0 ≤ x6_2
                · rw [if_pos c12] at H
                  have c12b0 : decide (0 ≤ x6_2) = true := decide_eq_true c12
                  clear c12
                  replace H := Option.bind_eq_some_iff.mp H
                  obtain ⟨t392, A130, H⟩ := H
                  replace H : (galleylaw15_few.l0 k2 a1 (wrap64 (x5_2 + t392)) (wrap64 (x6_2 + 1)) a0_0 a0_1 a0_2 l0_3) = some r := H
                  have A13 := Aside0.mk A130
                  clear A130
                  have H' := Aside0.mk H
                  clear H
                  have hcz14_0 : wr.cell? ⟨gb390, 0, none⟩ = some (.int .i64 a0_0) := (blk_cell BK390.out 0).trans rfl
                  have hcz14_1 : wr.cell? ⟨gb390, 1, none⟩ = some (.int .i64 a0_1) := (blk_cell BK390.out 1).trans rfl
                  have hcz14_2 : wr.cell? ⟨gb390, 2, none⟩ = some (.string a0_2) := (blk_cell BK390.out 2).trans rfl
                  have hcz14_3 : wr.cell? ⟨gb390, 3, none⟩ = some (.slice A0_3 l0_3.length c0_3) := (blk_cell BK390.out 3).trans rfl
                  have hfz14_0 := blk_frozen BK390.out 0
                  have hfz14_1 := blk_frozen BK390.out 1
                  have hfz14_2 := blk_frozen BK390.out 2
                  have hfz14_3 := blk_frozen BK390.out 3
                  have p391 : 0 ≤ (x6_2 : Int) := of_decide_eq_true (by first | (with_reducible assumption) | assumption)
                  have q391 : x6_2 < (l0_3.length : Int) := of_decide_eq_true (by first | (with_reducible assumption) | assumption)
                  obtain ⟨ad391, A391_3, c391_3, e391, hx391_0, hx391_1, hx391_2, hx391_3, hl391_3, hi391_3⟩ := at_T40 HR0_3.out x6_2 p391 q391
                  cases e391
                  replace hx391_0 := (HB.out.cell (World.block_lt_of_cell? w _ hx391_0)).trans hx391_0
                  replace hx391_1 := (HB.out.cell (World.block_lt_of_cell? w _ hx391_1)).trans hx391_1
                  replace hx391_2 := (HB.out.cell (World.block_lt_of_cell? w _ hx391_2)).trans hx391_2
                  replace hx391_3 := (HB.out.cell (World.block_lt_of_cell? w _ hx391_3)).trans hx391_3
                  have HR391_3 := Aside0.mk hi391_3
                  have HC391_3 := Aside0.mk hl391_3
                  clear hi391_3 hl391_3
                  replace p391 := eq_true p391
                  replace q391 := eq_true q391
                  go_wp2_with (first | ((with_reducible refine gate_callee (f := 49) rfl ?_); refine goesL_ (some 40) rfl rfl Try.func49 (by kernel_rfl) rfl #[.agg #[.int .i64 ((rd_T40 l0_3 x6_2).f0), .int .i64 ((rd_T40 l0_3 x6_2).f1), .string ((rd_T40 l0_3 x6_2).f2), .slice A391_3 ((rd_T40 l0_3 x6_2).f3).length c391_3], .int .i64 (wrap64 (a1 - 1))] rfl (by (try simp only [List.map_toArray, List.map_cons, List.map_nil]); first | done | rfl | (simp only [List.length_drop, List.length_take]; rfl)) ?_; (with_reducible refine (ih k2 (by have := HJ2.out; have := HK2.out; omega) ((rd_T40 l0_3 x6_2).f0) ((rd_T40 l0_3 x6_2).f1) ((rd_T40 l0_3 x6_2).f2) _ _ ((rd_T40 l0_3 x6_2).f3) (wrap64 (a1 - 1)) t392 _ ?side1 ?side2 A13.out).mono ?_); (case side1 => repeat (first | exact (Kd.C_below HR391_3.out HB.out) | (with_reducible refine Kd.C_alloc ?_ _) | (with_reducible refine Kd.C_drewN ?_ _) | (with_reducible refine Kd.C_drew ?_))); (case side2 => exact HC391_3.out); rintro e w15 ⟨rfl, hb⟩; refine ⟨_, rfl, ?_⟩; have n0_ := Aside0.mk (blk_below (g := gb390) (o := .cells #[.int .i64 a0_0, .int .i64 a0_1, .string a0_2, .slice (some ad391) l0_3.length c0_3] 40 (0, 0)) (by (with_reducible repeat (first | refine blk_drewN ?_ _ | refine blk_drew ?_ | refine blk_alloc ?_ _)); exact BK390.out) hb); have n1_ := Aside0.mk (below_step (by repeat (first | (with_reducible first | exact HB.out | apply below_alloc | apply pw_below_drewN | apply below_drew1 | refine below_set ?_ GE390.out) | exact HB.out)) hb); clear BK390; clear HB; have BK390 := n0_; have HB := n1_; clear n0_ n1_; (try clear hb); (try clear hb2); (try clear hk); (try clear hi)))
                  go_roundg k2
                  case measure => have := HJ2.out; have := HK2.out; omega
                  case rel => exact ⟨(wrap64 (x5_2 + t392)), (wrap64 (x6_2 + 1)), (by first | rfl | (simp; done) | (simp [*]; done)), (by first | rfl | (simp; done) | (simp [*]; done)), H', ⟨by have := HJ2.out; have := HK2.out; omega⟩, ⟨by (with_reducible repeat (first | refine blk_drewN ?_ _ | refine blk_drew ?_ | refine blk_alloc ?_ _)); exact BK390.out⟩, ⟨by repeat (first | (with_reducible first | exact HB.out | apply below_alloc | apply pw_below_drewN | apply below_drew1 | refine below_set ?_ GE390.out) | exact HB.out)⟩⟩
                · rw [if_neg c12] at H
                  exact absurd H (by simp)
              · rw [if_neg c11] at H
                have c11b0 : decide (x5_2 < 1000) = false := decide_eq_false c11
                clear c11
                obtain rfl := Option.some.inj H
                have hcz16_0 : wr.cell? ⟨gb390, 0, none⟩ = some (.int .i64 a0_0) := (blk_cell BK390.out 0).trans rfl
                have hcz16_1 : wr.cell? ⟨gb390, 1, none⟩ = some (.int .i64 a0_1) := (blk_cell BK390.out 1).trans rfl
                have hcz16_2 : wr.cell? ⟨gb390, 2, none⟩ = some (.string a0_2) := (blk_cell BK390.out 2).trans rfl
                have hcz16_3 : wr.cell? ⟨gb390, 3, none⟩ = some (.slice A0_3 l0_3.length c0_3) := (blk_cell BK390.out 3).trans rfl
                have hfz16_0 := blk_frozen BK390.out 0
                have hfz16_1 := blk_frozen BK390.out 1
                have hfz16_2 := blk_frozen BK390.out 2
                have hfz16_3 := blk_frozen BK390.out 3
                go_wp2
                go_ret
                exact ⟨by first | rfl | (simp [errW_none, errW_some] <;> rfl) | (simp [*, errW_none, errW_some] <;> rfl), by repeat (first | (with_reducible first | exact HB.out | apply below_alloc | apply pw_below_drewN | apply below_drew1 | refine below_set ?_ GE390.out) | exact HB.out)⟩
            · rw [if_neg c10] at H
              have c10b0 : decide (x6_2 < (l0_3.length : Int)) = false := decide_eq_false c10
              clear c10
              obtain rfl := Option.some.inj H
              have hcz17_0 : wr.cell? ⟨gb390, 0, none⟩ = some (.int .i64 a0_0) := (blk_cell BK390.out 0).trans rfl
              have hcz17_1 : wr.cell? ⟨gb390, 1, none⟩ = some (.int .i64 a0_1) := (blk_cell BK390.out 1).trans rfl
              have hcz17_2 : wr.cell? ⟨gb390, 2, none⟩ = some (.string a0_2) := (blk_cell BK390.out 2).trans rfl
              have hcz17_3 : wr.cell? ⟨gb390, 3, none⟩ = some (.slice A0_3 l0_3.length c0_3) := (blk_cell BK390.out 3).trans rfl
              have hfz17_0 := blk_frozen BK390.out 0
              have hfz17_1 := blk_frozen BK390.out 1
              have hfz17_2 := blk_frozen BK390.out 2
              have hfz17_3 := blk_frozen BK390.out 3
              go_wp2
              go_ret
              exact ⟨by first | rfl | (simp [errW_none, errW_some] <;> rfl) | (simp [*, errW_none, errW_some] <;> rfl), by repeat (first | (with_reducible first | exact HB.out | apply below_alloc | apply pw_below_drewN | apply below_drew1 | refine below_set ?_ GE390.out) | exact HB.out)⟩

/-! ### galleylaw15_Few: function 27 -/
def galleylaw15_Few.f (k : Nat) (a0_0 : Int) (a0_1 : Int) (a0_2 : ByteArray) (l0_3 : List (S40)) : Option (Bool) := (galleylaw15_few.f k a0_0 a0_1 a0_2 l0_3 60).bind fun t394 => (some (decide (t394 ≤ 500)))
theorem galleylaw15_Few.mono : ∀ a0 a1 a2 a3 k, LeO (galleylaw15_Few.f k a0 a1 a2 a3) (galleylaw15_Few.f (k + 1) a0 a1 a2 a3) := by
  intro a0 a1 a2 a3 k
  unfold galleylaw15_Few.f
  repeat' first
      | (with_reducible exact galleylaw15_few.mono _ _ _ _ _ _)
      | (with_reducible exact LeO.refl _)
      | (with_reducible exact LeO.none _)
      | (with_reducible refine LeO.ite ?_ ?_)
      | (with_reducible refine LeO.bind ?_ (fun _ => ?_))
      | exact galleylaw15_few.mono _ _ _ _ _ _
      | exact LeO.none _
      | refine LeO.ite ?_ ?_
      | refine LeO.bind ?_ (fun _ => ?_)
set_option maxHeartbeats 8000000 in
set_option maxRecDepth 100000 in
theorem galleylaw15_Few.calls (k : Nat) (a0_0 : Int) (a0_1 : Int) (a0_2 : ByteArray) (A0_3 : Option Addr) (c0_3 : Nat) (l0_3 : List (S40)) (r : Bool) (w : World) (hr0_3 : Kd.C k40 w A0_3 l0_3.length l0_3) (hc0_3 : l0_3.length ≤ c0_3) (h : galleylaw15_Few.f k a0_0 a0_1 a0_2 l0_3 = some r) :
    Calls Try.prog 27 #[.agg #[.int .i64 a0_0, .int .i64 a0_1, .string a0_2, .slice A0_3 l0_3.length c0_3]] w fun e w' => e = .returned (.bool r) ∧ Below w.heap.size w w' := by
  have hu40 := Try.underlying40
  have HR0_3 := Aside0.mk hr0_3
  have HC0_3 := Aside0.mk hc0_3
  clear hr0_3 hc0_3
  have HB := Aside0.mk (Below.refl w.heap.size w)
  have H : ((galleylaw15_few.f k a0_0 a0_1 a0_2 l0_3 60).bind fun t394 => (some (decide (t394 ≤ 500)))) = some r := h
  clear h
  replace H := Option.bind_eq_some_iff.mp H
  obtain ⟨t394, A20, H⟩ := H
  replace H : (some (decide (t394 ≤ 500))) = some r := H
  have A2 := Aside0.mk A20
  clear A20
  obtain rfl := Option.some.inj H
  go_enter Try.func27, Try.ntmps27
  go_wp2_with (first | ((with_reducible refine gate_dst (N := 1) rfl ?_); refine box_event ?hg (N := 1) ?hd (cs := #[.int .i64 a0_0, .int .i64 a0_1, .string a0_2, .slice A0_3 l0_3.length c0_3]) (t := 40) ?hr ?_; (case hd => rfl); (case hg => rfl); (case hr => first | (go_simp; done) | (go_simp; rfl)); intro gb393 hg w3 hbox hb; have n0_ := Aside0.mk (below_step (by repeat (first | (with_reducible first | exact HB.out | apply below_alloc | apply pw_below_drewN | apply below_drew1) | exact HB.out)) hb); have n1_ := Aside0.mk (hbox); have n2_ := Aside0.mk ((by rw [hg]; exact (below_size (by repeat (first | (with_reducible first | exact HB.out | apply below_alloc | apply pw_below_drewN | apply below_drew1) | exact HB.out))) : w.heap.size ≤ gb393)); have n3_ := Aside0.mk ((by rw [hg]; exact (below_size (by repeat (first | (with_reducible first | exact HB.out | apply below_alloc | apply pw_below_drewN | apply below_drew1) | exact HB.out))) : w.heap.size ≤ gb393)); clear HB; have HB := n0_; have BK393 := n1_; have GW393 := n2_; have GE393 := n3_; clear n0_ n1_ n2_ n3_; clear hb hbox hg; have hcz4_0 : w3.cell? ⟨gb393, 0, none⟩ = some (.int .i64 a0_0) := (blk_cell BK393.out 0).trans rfl; have hcz4_1 : w3.cell? ⟨gb393, 1, none⟩ = some (.int .i64 a0_1) := (blk_cell BK393.out 1).trans rfl; have hcz4_2 : w3.cell? ⟨gb393, 2, none⟩ = some (.string a0_2) := (blk_cell BK393.out 2).trans rfl; have hcz4_3 : w3.cell? ⟨gb393, 3, none⟩ = some (.slice A0_3 l0_3.length c0_3) := (blk_cell BK393.out 3).trans rfl; have hfz4_0 := blk_frozen BK393.out 0; have hfz4_1 := blk_frozen BK393.out 1; have hfz4_2 := blk_frozen BK393.out 2; have hfz4_3 := blk_frozen BK393.out 3) | ((with_reducible refine gate_callee (f := 49) rfl ?_); refine goesL_ (some 4) rfl rfl Try.func49 (by kernel_rfl) rfl #[.agg #[.int .i64 a0_0, .int .i64 a0_1, .string a0_2, .slice A0_3 l0_3.length c0_3], .int .i64 60] rfl (by (try simp only [List.map_toArray, List.map_cons, List.map_nil]); first | done | rfl | (simp only [List.length_drop, List.length_take]; rfl)) ?_; (with_reducible refine (galleylaw15_few.calls k a0_0 a0_1 a0_2 _ _ l0_3 60 t394 _ ?side1 ?side2 A2.out).mono ?_); (case side1 => repeat (first | exact (Kd.C_below HR0_3.out HB.out) | (with_reducible refine Kd.C_alloc ?_ _) | (with_reducible refine Kd.C_drewN ?_ _) | (with_reducible refine Kd.C_drew ?_))); (case side2 => exact HC0_3.out); rintro e w5 ⟨rfl, hb⟩; refine ⟨_, rfl, ?_⟩; have n0_ := Aside0.mk (blk_below (g := gb393) (o := .cells #[.int .i64 a0_0, .int .i64 a0_1, .string a0_2, .slice A0_3 l0_3.length c0_3] 40 (0, 0)) (by (with_reducible repeat (first | refine blk_drewN ?_ _ | refine blk_drew ?_ | refine blk_alloc ?_ _)); exact BK393.out) hb); have n1_ := Aside0.mk (below_step (by repeat (first | (with_reducible first | exact HB.out | apply below_alloc | apply pw_below_drewN | apply below_drew1 | refine below_set ?_ GE393.out) | exact HB.out)) hb); clear BK393; clear HB; have BK393 := n0_; have HB := n1_; clear n0_ n1_; (try clear hb); (try clear hb2); (try clear hk); (try clear hi)))
  go_ret
  exact ⟨by first | rfl | (simp [errW_none, errW_some] <;> rfl) | (simp [*, errW_none, errW_some] <;> rfl), by repeat (first | (with_reducible first | exact HB.out | apply below_alloc | apply pw_below_drewN | apply below_drew1 | refine below_set ?_ GE393.out) | exact HB.out)⟩

end Go.Proofs.Ytjlnlonioknkhaa.PA

/- Printed by this session's driver of the kit's printer (stubbed functions are proved by hand). Lean checks it. -/
import Derived.Test.YtjlnlonioknkhaaPAx0
namespace Go.Proofs.Ytjlnlonioknkhaa.PA
open Go.RowKit Go.Proofs.YtjlnlonioknkhaaW.PrintWords Go.Proofs.YtjlnlonioknkhaaW.PrintLast Go.Proofs.YtjlnlonioknkhaaW.PrintMore
attribute [local go_sem] max2_int min2_int max_two min_two max_three min_three max_four min_four   -- for this text's walks alone
set_option linter.unusedVariables false
set_option linter.unusedSimpArgs false

/-! ### galleyref9_Lits: function 23 -/
mutual
def galleyref9_Lits.j0 : Nat → List ByteArray → Int → ByteArray → List (S26) → Bool → Bool → List ByteArray → List ByteArray → Option (List ByteArray)
  | 0, _, _, _, _, _, _, _, _ => none
  | k + 1, x3, x237000, x237001, x237002, x237003, x237004, x237005, x237006 => galleyref9_Lits.l0 k x3 0 x237000 x237001 x237002 x237003 x237004 x237005 x237006
def galleyref9_Lits.l0 : Nat → List ByteArray → Int → Int → ByteArray → List (S26) → Bool → Bool → List ByteArray → List ByteArray → Option (List ByteArray)
  | 0, _, _, _, _, _, _, _, _, _ => none
  | k + 1, x3, x4, x237000, x237001, x237002, x237003, x237004, x237005, x237006 => if x4 < (x237002.length : Int) then (if 0 ≤ x4 then ((galleyref9_Lits.f k ((rd_T26 x237002 x4).f0) ((rd_T26 x237002 x4).f1) ((rd_T26 x237002 x4).f2) ((rd_T26 x237002 x4).f3) ((rd_T26 x237002 x4).f4) ((rd_T26 x237002 x4).f5) ((rd_T26 x237002 x4).f6)).bind fun t241 => (if x3.length + t241.length < 8796093022208 then (galleyref9_Lits.l0 k (x3 ++ t241) (wrap64 (x4 + 1)) x237000 x237001 x237002 x237003 x237004 x237005 x237006) else (none))) else (none)) else (some x3)
def galleyref9_Lits.f : Nat → Int → ByteArray → List (S26) → Bool → Bool → List ByteArray → List ByteArray → Option (List ByteArray)
  | 0, _, _, _, _, _, _, _ => none
  | k + 1, a0_0, a0_1, l0_2, a0_3, a0_4, l0_5, l0_6 => if a0_0 = 1 then (if ([] : List ByteArray).length < 8796093022208 then (galleyref9_Lits.j0 k (([] : List ByteArray) ++ [a0_1]) a0_0 a0_1 l0_2 a0_3 a0_4 l0_5 l0_6) else (none)) else (galleyref9_Lits.j0 k ([] : List ByteArray) a0_0 a0_1 l0_2 a0_3 a0_4 l0_5 l0_6)
end
theorem galleyref9_Lits.mono_l : ∀ k, (∀ y0 y1 y2 y3 y4 y5 y6, LeO (galleyref9_Lits.f k y0 y1 y2 y3 y4 y5 y6) (galleyref9_Lits.f (k + 1) y0 y1 y2 y3 y4 y5 y6)) ∧ (∀ y0 y1 y2 y3 y4 y5 y6 y7, LeO (galleyref9_Lits.j0 k y0 y1 y2 y3 y4 y5 y6 y7) (galleyref9_Lits.j0 (k + 1) y0 y1 y2 y3 y4 y5 y6 y7)) ∧ (∀ y0 y1 y2 y3 y4 y5 y6 y7 y8, LeO (galleyref9_Lits.l0 k y0 y1 y2 y3 y4 y5 y6 y7 y8) (galleyref9_Lits.l0 (k + 1) y0 y1 y2 y3 y4 y5 y6 y7 y8))
  | 0 => ⟨fun _ _ _ _ _ _ _ r h => by simp [galleyref9_Lits.f] at h, fun _ _ _ _ _ _ _ _ r h => by simp [galleyref9_Lits.j0] at h, fun _ _ _ _ _ _ _ _ _ r h => by simp [galleyref9_Lits.l0] at h⟩
  | k + 1 => by
    obtain ⟨ih0, ih1, ih2⟩ := galleyref9_Lits.mono_l k
    refine ⟨?_, ?_, ?_⟩
    · intro y0 y1 y2 y3 y4 y5 y6
      unfold galleyref9_Lits.f
      repeat' first
      | (with_reducible exact ih0 _ _ _ _ _ _ _)
      | (with_reducible exact ih1 _ _ _ _ _ _ _ _)
      | (with_reducible exact ih2 _ _ _ _ _ _ _ _ _)
      | (with_reducible exact LeO.refl _)
      | (with_reducible exact LeO.none _)
      | (with_reducible refine LeO.ite ?_ ?_)
      | (with_reducible refine LeO.bind ?_ (fun _ => ?_))
      | exact ih0 _ _ _ _ _ _ _
      | exact ih1 _ _ _ _ _ _ _ _
      | exact ih2 _ _ _ _ _ _ _ _ _
      | exact LeO.none _
      | refine LeO.ite ?_ ?_
      | refine LeO.bind ?_ (fun _ => ?_)
    · intro y0 y1 y2 y3 y4 y5 y6 y7
      unfold galleyref9_Lits.j0
      repeat' first
      | (with_reducible exact ih0 _ _ _ _ _ _ _)
      | (with_reducible exact ih1 _ _ _ _ _ _ _ _)
      | (with_reducible exact ih2 _ _ _ _ _ _ _ _ _)
      | (with_reducible exact LeO.refl _)
      | (with_reducible exact LeO.none _)
      | (with_reducible refine LeO.ite ?_ ?_)
      | (with_reducible refine LeO.bind ?_ (fun _ => ?_))
      | exact ih0 _ _ _ _ _ _ _
      | exact ih1 _ _ _ _ _ _ _ _
      | exact ih2 _ _ _ _ _ _ _ _ _
      | exact LeO.none _
      | refine LeO.ite ?_ ?_
      | refine LeO.bind ?_ (fun _ => ?_)
    · intro y0 y1 y2 y3 y4 y5 y6 y7 y8
      unfold galleyref9_Lits.l0
      repeat' first
      | (with_reducible exact ih0 _ _ _ _ _ _ _)
      | (with_reducible exact ih1 _ _ _ _ _ _ _ _)
      | (with_reducible exact ih2 _ _ _ _ _ _ _ _ _)
      | (with_reducible exact LeO.refl _)
      | (with_reducible exact LeO.none _)
      | (with_reducible refine LeO.ite ?_ ?_)
      | (with_reducible refine LeO.bind ?_ (fun _ => ?_))
      | exact ih0 _ _ _ _ _ _ _
      | exact ih1 _ _ _ _ _ _ _ _
      | exact ih2 _ _ _ _ _ _ _ _ _
      | exact LeO.none _
      | refine LeO.ite ?_ ?_
      | refine LeO.bind ?_ (fun _ => ?_)
theorem galleyref9_Lits.mono : ∀ a0 a1 a2 a3 a4 a5 a6 k, LeO (galleyref9_Lits.f k a0 a1 a2 a3 a4 a5 a6) (galleyref9_Lits.f (k + 1) a0 a1 a2 a3 a4 a5 a6) := by
  intro a0 a1 a2 a3 a4 a5 a6 k
  obtain ⟨ih0, ih1, ih2⟩ := galleyref9_Lits.mono_l k
  exact ih0 a0 a1 a2 a3 a4 a5 a6
set_option maxHeartbeats 8000000 in
set_option maxRecDepth 100000 in
theorem galleyref9_Lits.calls (k : Nat) : ∀ (a0_0 : Int) (a0_1 : ByteArray) (A0_2 : Option Addr) (c0_2 : Nat) (l0_2 : List (S26)) (a0_3 : Bool) (a0_4 : Bool) (A0_5 : Option Addr) (c0_5 : Nat) (l0_5 : List ByteArray) (A0_6 : Option Addr) (c0_6 : Nat) (l0_6 : List ByteArray) (r : List ByteArray) (w : World) (hr0_2 : Kd.C k26 w A0_2 l0_2.length l0_2) (hc0_2 : l0_2.length ≤ c0_2) (hr0_5 : Kd.C Kd.string w A0_5 l0_5.length l0_5) (hc0_5 : l0_5.length ≤ c0_5) (hr0_6 : Kd.C Kd.string w A0_6 l0_6.length l0_6) (hc0_6 : l0_6.length ≤ c0_6) (h : galleyref9_Lits.f k a0_0 a0_1 l0_2 a0_3 a0_4 l0_5 l0_6 = some r),
    Calls Try.prog 23 #[.agg #[.int .i64 a0_0, .string a0_1, .slice A0_2 l0_2.length c0_2, .bool a0_3, .bool a0_4, .slice A0_5 l0_5.length c0_5, .slice A0_6 l0_6.length c0_6]] w fun e w' => ∃ v0_ : Value, e = .returned (v0_) ∧ Kd.R Kd.string 9 w' w.heap.size (fun _ => True) v0_ r ∧ Below w.heap.size w w' := by
  induction k using Nat.strongRecOn with
  | _ k ih =>
  intro a0_0 a0_1 A0_2 c0_2 l0_2 a0_3 a0_4 A0_5 c0_5 l0_5 A0_6 c0_6 l0_6 r w hr0_2 hc0_2 hr0_5 hc0_5 hr0_6 hc0_6 h
  cases k with
  | zero => exact absurd h (by simp [galleyref9_Lits.f])
  | succ k =>
  simp only [galleyref9_Lits.f] at h
  have hu26 := Try.underlying26
  have HR0_2 := Aside0.mk hr0_2
  have HC0_2 := Aside0.mk hc0_2
  clear hr0_2 hc0_2
  have HR0_5 := Aside0.mk hr0_5
  have HC0_5 := Aside0.mk hc0_5
  clear hr0_5 hc0_5
  have HR0_6 := Aside0.mk hr0_6
  have HC0_6 := Aside0.mk hc0_6
  clear hr0_6 hc0_6
  have HB := Aside0.mk (Below.refl w.heap.size w)
  have H : (if a0_0 = 1 then (if ([] : List ByteArray).length < 8796093022208 then (galleyref9_Lits.j0 k (([] : List ByteArray) ++ [a0_1]) a0_0 a0_1 l0_2 a0_3 a0_4 l0_5 l0_6) else (none)) else (galleyref9_Lits.j0 k ([] : List ByteArray) a0_0 a0_1 l0_2 a0_3 a0_4 l0_5 l0_6)) = some r := h
  clear h
  have HC2 := Aside0.mk H
  clear H
  go_enter Try.func23, Try.ntmps23
  go_upto_if 7 with (first | ((with_reducible refine gate_dst (N := 1) rfl ?_); refine box_event ?hg (N := 1) ?hd (cs := #[.int .i64 a0_0, .string a0_1, .slice A0_2 l0_2.length c0_2, .bool a0_3, .bool a0_4, .slice A0_5 l0_5.length c0_5, .slice A0_6 l0_6.length c0_6]) (t := 26) ?hr ?_; (case hd => rfl); (case hg => rfl); (case hr => first | (go_simp; done) | (go_simp; rfl)); intro gb236 hg w3 hbox hb; have n0_ := Aside0.mk (below_step (by repeat (first | (with_reducible first | exact HB.out | apply below_alloc | apply pw_below_drewN | apply below_drew1) | exact HB.out)) hb); have n1_ := Aside0.mk (hbox); have n2_ := Aside0.mk ((by rw [hg]; exact (below_size (by repeat (first | (with_reducible first | exact HB.out | apply below_alloc | apply pw_below_drewN | apply below_drew1) | exact HB.out))) : w.heap.size ≤ gb236)); have n3_ := Aside0.mk ((by rw [hg]; exact (below_size (by repeat (first | (with_reducible first | exact HB.out | apply below_alloc | apply pw_below_drewN | apply below_drew1) | exact HB.out))) : w.heap.size ≤ gb236)); clear HB; have HB := n0_; have BK236 := n1_; have GW236 := n2_; have GE236 := n3_; clear n0_ n1_ n2_ n3_; clear hb hbox hg; have hcz4_0 : w3.cell? ⟨gb236, 0, none⟩ = some (.int .i64 a0_0) := (blk_cell BK236.out 0).trans rfl; have hcz4_1 : w3.cell? ⟨gb236, 1, none⟩ = some (.string a0_1) := (blk_cell BK236.out 1).trans rfl; have hcz4_2 : w3.cell? ⟨gb236, 2, none⟩ = some (.slice A0_2 l0_2.length c0_2) := (blk_cell BK236.out 2).trans rfl; have hcz4_3 : w3.cell? ⟨gb236, 3, none⟩ = some (.bool a0_3) := (blk_cell BK236.out 3).trans rfl; have hcz4_4 : w3.cell? ⟨gb236, 4, none⟩ = some (.bool a0_4) := (blk_cell BK236.out 4).trans rfl; have hcz4_5 : w3.cell? ⟨gb236, 5, none⟩ = some (.slice A0_5 l0_5.length c0_5) := (blk_cell BK236.out 5).trans rfl; have hcz4_6 : w3.cell? ⟨gb236, 6, none⟩ = some (.slice A0_6 l0_6.length c0_6) := (blk_cell BK236.out 6).trans rfl; have hfz4_0 := blk_frozen BK236.out 0; have hfz4_1 := blk_frozen BK236.out 1; have hfz4_2 := blk_frozen BK236.out 2; have hfz4_3 := blk_frozen BK236.out 3; have hfz4_4 := blk_frozen BK236.out 4; have hfz4_5 := blk_frozen BK236.out 5; have hfz4_6 := blk_frozen BK236.out 6))
  (try simp only [Act.put, List.setIfInBounds_toArray, List.set_cons_zero, List.set_cons_succ])
  go_cut [3] (fun v3 wc => ∃ (kq : Nat) (x3_1 : List ByteArray), Aside0 (galleyref9_Lits.j0 kq x3_1 a0_0 a0_1 l0_2 a0_3 a0_4 l0_5 l0_6 = some r) ∧ Aside0 (kq ≤ k) ∧ Aside0 (Kd.R Kd.string 9 wc w.heap.size (fun _ => True) v3 x3_1) ∧ Aside0 (wc.heap[gb236]? = some (.cells #[.int .i64 a0_0, .string a0_1, (.slice A0_2 l0_2.length c0_2), .bool a0_3, .bool a0_4, (.slice A0_5 l0_5.length c0_5), (.slice A0_6 l0_6.length c0_6)] 26 (0, 0))) ∧ Aside0 (Below w.heap.size w wc))
  case first =>
    have H := HC2.out
    clear HC2
    by_cases c5 : a0_0 = 1
    · rw [if_pos c5] at H
      have c5b0 : (a0_0 == 1) = true := beq_iff_eq.mpr c5
      have c5b1 : (a0_0 != 1) = false := bne_eq_false_iff_eq.mpr c5
      clear c5
      (first | rw [c5b0] | (simp only [i64_w, i32_w]; rw [c5b0]) | skip)
      by_cases c6 : ([] : List ByteArray).length < 8796093022208
      · rw [if_pos c6] at H
        have LMc6 := Aside0.mk c6
        clear c6
        obtain ⟨y237, hy237⟩ : ∃ y_ : List ByteArray, y_ = (([] : List ByteArray) ++ [a0_1]) := ⟨_, rfl⟩
        replace H : (galleyref9_Lits.j0 k y237 a0_0 a0_1 l0_2 a0_3 a0_4 l0_5 l0_6) = some r := by first | (rw [hy237]; with_reducible exact H) | (have H2_ := (Option.bind_some _ _).symm.trans H; rw [hy237]; with_reducible exact H2_) | (have H2_ := (Option.bind_some _ _).symm.trans H; with_reducible exact H2_) | with_reducible exact H | (rw [hy237]; exact H) | exact H
        have Ny237 := Aside0.mk hy237
        clear hy237
        have H' := Aside0.mk H
        clear H
        have hcz7_0 : w3.cell? ⟨gb236, 0, none⟩ = some (.int .i64 a0_0) := (blk_cell BK236.out 0).trans rfl
        have hcz7_1 : w3.cell? ⟨gb236, 1, none⟩ = some (.string a0_1) := (blk_cell BK236.out 1).trans rfl
        have hcz7_2 : w3.cell? ⟨gb236, 2, none⟩ = some (.slice A0_2 l0_2.length c0_2) := (blk_cell BK236.out 2).trans rfl
        have hcz7_3 : w3.cell? ⟨gb236, 3, none⟩ = some (.bool a0_3) := (blk_cell BK236.out 3).trans rfl
        have hcz7_4 : w3.cell? ⟨gb236, 4, none⟩ = some (.bool a0_4) := (blk_cell BK236.out 4).trans rfl
        have hcz7_5 : w3.cell? ⟨gb236, 5, none⟩ = some (.slice A0_5 l0_5.length c0_5) := (blk_cell BK236.out 5).trans rfl
        have hcz7_6 : w3.cell? ⟨gb236, 6, none⟩ = some (.slice A0_6 l0_6.length c0_6) := (blk_cell BK236.out 6).trans rfl
        have hfz7_0 := blk_frozen BK236.out 0
        have hfz7_1 := blk_frozen BK236.out 1
        have hfz7_2 := blk_frozen BK236.out 2
        have hfz7_3 := blk_frozen BK236.out 3
        have hfz7_4 := blk_frozen BK236.out 4
        have hfz7_5 := blk_frozen BK236.out 5
        have hfz7_6 := blk_frozen BK236.out 6
        go_wp2_with (first | ((with_reducible refine gate_builtin (b := .append) (xs := #[.tmp 8, .tmp 11]) rfl ?_); at_builtin; refine Kd.R_append Kd.string (w0 := w) w.heap.size rfl (.tmp 8) (.tmp 11) 22 9 (.string ⟨#[]⟩) 16 rfl Try.underlying22 info9 rfl (by decide) (by omega) (.slice none 0 0) ([] : List ByteArray) a0_1 [.string a0_1] (fun _ => True) (fun _ => False) rfl rfl ?aP (fun _ hk => hk.elim) ?aF ?aO ?aB ?aS ?aL ?_; (case aP => exact rfl); (case aB => exact (by repeat (first | (with_reducible first | exact HB.out | apply below_alloc | apply pw_below_drewN | apply below_drew1 | refine below_set ?_ GE236.out) | exact HB.out))); (case aF => exact (fun _ _ => trivial)); (case aO => exact ((Kd.R_nil _ _ _ _ (fun _ => True)))); (case aS => exact (below_size (by repeat (first | (with_reducible first | exact HB.out | apply below_alloc | apply pw_below_drewN | apply below_drew1 | refine below_set ?_ GE236.out) | exact HB.out)))); (case aL => have := LMc6.out; omega); intro v238 w8 ho hb hg hat; rw [← Ny237.out] at ho; have n0_ := Aside0.mk (blk_grown (g := gb236) (o := .cells #[.int .i64 a0_0, .string a0_1, .slice A0_2 l0_2.length c0_2, .bool a0_3, .bool a0_4, .slice A0_5 l0_5.length c0_5, .slice A0_6 l0_6.length c0_6] 26 (0, 0)) (by (with_reducible repeat (first | refine blk_drewN ?_ _ | refine blk_drew ?_ | refine blk_alloc ?_ _)); exact BK236.out) hg (by simp [Value.ownBlock])); have n1_ := Aside0.mk (hb); have n2_ := Aside0.mk (ho); clear BK236; clear HB; have BK236 := n0_; have HB := n1_; have HO239 := n2_; clear n0_ n1_ n2_; clear ho hb hg hat))
        go_meet
        case rel => exact ⟨_, (y237), H', ⟨by first | omega | exact Nat.le_refl _⟩, ⟨by (with_reducible repeat (first | apply Kd.R_alloc | apply Kd.R_drewN | apply Kd.R_drew)); exact HO239.out⟩, ⟨by (with_reducible repeat (first | refine blk_drewN ?_ _ | refine blk_drew ?_ | refine blk_alloc ?_ _)); exact BK236.out⟩, ⟨by repeat (first | (with_reducible first | exact HB.out | apply below_alloc | apply pw_below_drewN | apply below_drew1 | refine below_set ?_ GE236.out) | exact HB.out)⟩⟩
      · rw [if_neg c6] at H
        exact absurd H (by simp)
    · rw [if_neg c5] at H
      have c5b0 : (a0_0 == 1) = false := beq_eq_false_iff_ne.mpr c5
      have c5b1 : (a0_0 != 1) = true := bne_iff_ne.mpr c5
      (first | rw [c5b0] | (simp only [i64_w, i32_w]; rw [c5b0]) | skip)
      have H' := Aside0.mk H
      clear H
      go_wp2
      go_meet
      case rel => exact ⟨_, (([] : List ByteArray)), H', ⟨by first | omega | exact Nat.le_refl _⟩, ⟨by first | exact Kd.R_nil _ _ _ _ _ | exact Kd.N_nil _ _ _ _ _ | exact Kd.V_nil _ _ _ _ _ | exact Kd.Q_nil _ _ _ _ _ | exact Kd.S_nil _ _ _ _ _⟩, ⟨by (with_reducible repeat (first | refine blk_drewN ?_ _ | refine blk_drew ?_ | refine blk_alloc ?_ _)); exact BK236.out⟩, ⟨by repeat (first | (with_reducible first | exact HB.out | apply below_alloc | apply pw_below_drewN | apply below_drew1 | refine below_set ?_ GE236.out) | exact HB.out)⟩⟩
  case rest =>
    clear HC2
    try clear c2
    try clear p2
    try clear c5
    try clear c5b0
    try clear c5b1
    try clear c6
    try clear hcz4_0
    try clear hcz4_1
    try clear hcz4_2
    try clear hcz4_3
    try clear hcz4_4
    try clear hcz4_5
    try clear hcz4_6
    try clear hcz7_0
    try clear hcz7_1
    try clear hcz7_2
    try clear hcz7_3
    try clear hcz7_4
    try clear hcz7_5
    try clear hcz7_6
    try clear hfz4_0
    try clear hfz4_1
    try clear hfz4_2
    try clear hfz4_3
    try clear hfz4_4
    try clear hfz4_5
    try clear hfz4_6
    try clear hfz7_0
    try clear hfz7_1
    try clear hfz7_2
    try clear hfz7_3
    try clear hfz7_4
    try clear hfz7_5
    try clear hfz7_6
    obtain ⟨kq, x3_1, HA, HJ1, HO_3, BK236, HB⟩ := hcut
    cases kq with
    | zero => exact absurd HA.out (by simp [galleyref9_Lits.j0])
    | succ kj1 =>
      have H := HA.out
      clear HA
      simp only [galleyref9_Lits.j0] at H
      have H' := Aside0.mk H
      clear H
      go_wp2
      go_loopg [3, 4] kj1 (fun kq v3 v4 w' => ∃ (x3_2 : List ByteArray) (x4_2 : Int), v4 = .int .i64 x4_2 ∧ Aside0 (galleyref9_Lits.l0 kq x3_2 x4_2 a0_0 a0_1 l0_2 a0_3 a0_4 l0_5 l0_6 = some r) ∧ Aside0 (kq ≤ kj1) ∧ Aside0 (Kd.R Kd.string 9 w' w.heap.size (fun _ => True) v3 x3_2) ∧ Aside0 (w'.heap[gb236]? = some (.cells #[.int .i64 a0_0, .string a0_1, (.slice A0_2 l0_2.length c0_2), .bool a0_3, .bool a0_4, (.slice A0_5 l0_5.length c0_5), (.slice A0_6 l0_6.length c0_6)] 26 (0, 0))) ∧ Aside0 (Below w.heap.size w w'))
      case atStart => exact ⟨(x3_1), (0), (by first | rfl | (simp; done) | (simp [*]; done)), H', ⟨Nat.le_refl _⟩, ⟨by (with_reducible repeat (first | apply Kd.R_alloc | apply Kd.R_drewN | apply Kd.R_drew)); exact HO_3.out⟩, ⟨by (with_reducible repeat (first | refine blk_drewN ?_ _ | refine blk_drew ?_ | refine blk_alloc ?_ _)); exact BK236.out⟩, ⟨by repeat (first | (with_reducible first | exact HB.out | apply below_alloc | apply pw_below_drewN | apply below_drew1 | refine below_set ?_ GE236.out) | exact HB.out)⟩⟩
      case round =>
        clear H'
        try clear c2
        try clear p2
        try clear c5
        try clear c5b0
        try clear c5b1
        try clear c6
        try clear hcz4_0
        try clear hcz4_1
        try clear hcz4_2
        try clear hcz4_3
        try clear hcz4_4
        try clear hcz4_5
        try clear hcz4_6
        try clear hcz7_0
        try clear hcz7_1
        try clear hcz7_2
        try clear hcz7_3
        try clear hcz7_4
        try clear hcz7_5
        try clear hcz7_6
        try clear hfz4_0
        try clear hfz4_1
        try clear hfz4_2
        try clear hfz4_3
        try clear hfz4_4
        try clear hfz4_5
        try clear hfz4_6
        try clear hfz7_0
        try clear hfz7_1
        try clear hfz7_2
        try clear hfz7_3
        try clear hfz7_4
        try clear hfz7_5
        try clear hfz7_6
        try clear p2
        obtain ⟨x3_2, x4_2, rfl, HA, HK2, HO_3, BK236, HB⟩ := hrel
        cases gk with
        | zero => exact absurd HA.out (by simp [galleyref9_Lits.l0])
        | succ k2 =>
          have H := HA.out
          clear HA
          simp only [galleyref9_Lits.l0] at H
          by_cases c9 : x4_2 < (l0_2.length : Int)
          · rw [if_pos c9] at H
            have c9b0 : decide (x4_2 < (l0_2.length : Int)) = true := decide_eq_true c9
            clear c9
            by_cases c10 : 0 ≤ x4_2
            · rw [if_pos c10] at H
              have c10b0 : decide (0 ≤ x4_2) = true := decide_eq_true c10
              clear c10
              replace H := Option.bind_eq_some_iff.mp H
              obtain ⟨t241, A110, H⟩ := H
              replace H : (if x3_2.length + t241.length < 8796093022208 then (galleyref9_Lits.l0 k2 (x3_2 ++ t241) (wrap64 (x4_2 + 1)) a0_0 a0_1 l0_2 a0_3 a0_4 l0_5 l0_6) else (none)) = some r := H
              have A11 := Aside0.mk A110
              clear A110
              by_cases c12 : x3_2.length + t241.length < 8796093022208
              · rw [if_pos c12] at H
                have LMc12 := Aside0.mk c12
                clear c12
                obtain ⟨y244, hy244⟩ : ∃ y_ : List ByteArray, y_ = (x3_2 ++ t241) := ⟨_, rfl⟩
                replace H : (galleyref9_Lits.l0 k2 y244 (wrap64 (x4_2 + 1)) a0_0 a0_1 l0_2 a0_3 a0_4 l0_5 l0_6) = some r := by first | (rw [hy244]; with_reducible exact H) | (have H2_ := (Option.bind_some _ _).symm.trans H; rw [hy244]; with_reducible exact H2_) | (have H2_ := (Option.bind_some _ _).symm.trans H; with_reducible exact H2_) | with_reducible exact H | (rw [hy244]; exact H) | exact H
                have Ny244 := Aside0.mk hy244
                clear hy244
                have H' := Aside0.mk H
                clear H
                have hcz13_0 : wr.cell? ⟨gb236, 0, none⟩ = some (.int .i64 a0_0) := (blk_cell BK236.out 0).trans rfl
                have hcz13_1 : wr.cell? ⟨gb236, 1, none⟩ = some (.string a0_1) := (blk_cell BK236.out 1).trans rfl
                have hcz13_2 : wr.cell? ⟨gb236, 2, none⟩ = some (.slice A0_2 l0_2.length c0_2) := (blk_cell BK236.out 2).trans rfl
                have hcz13_3 : wr.cell? ⟨gb236, 3, none⟩ = some (.bool a0_3) := (blk_cell BK236.out 3).trans rfl
                have hcz13_4 : wr.cell? ⟨gb236, 4, none⟩ = some (.bool a0_4) := (blk_cell BK236.out 4).trans rfl
                have hcz13_5 : wr.cell? ⟨gb236, 5, none⟩ = some (.slice A0_5 l0_5.length c0_5) := (blk_cell BK236.out 5).trans rfl
                have hcz13_6 : wr.cell? ⟨gb236, 6, none⟩ = some (.slice A0_6 l0_6.length c0_6) := (blk_cell BK236.out 6).trans rfl
                have hfz13_0 := blk_frozen BK236.out 0
                have hfz13_1 := blk_frozen BK236.out 1
                have hfz13_2 := blk_frozen BK236.out 2
                have hfz13_3 := blk_frozen BK236.out 3
                have hfz13_4 := blk_frozen BK236.out 4
                have hfz13_5 := blk_frozen BK236.out 5
                have hfz13_6 := blk_frozen BK236.out 6
                have p240 : 0 ≤ (x4_2 : Int) := of_decide_eq_true (by first | (with_reducible assumption) | assumption)
                have q240 : x4_2 < (l0_2.length : Int) := of_decide_eq_true (by first | (with_reducible assumption) | assumption)
                obtain ⟨ad240, A240_2, c240_2, A240_5, c240_5, A240_6, c240_6, e240, hx240_0, hx240_1, hx240_2, hx240_3, hx240_4, hx240_5, hx240_6, hl240_2, hi240_2, hl240_5, hi240_5, hl240_6, hi240_6⟩ := at_T26 HR0_2.out x4_2 p240 q240
                cases e240
                replace hx240_0 := (HB.out.cell (World.block_lt_of_cell? w _ hx240_0)).trans hx240_0
                replace hx240_1 := (HB.out.cell (World.block_lt_of_cell? w _ hx240_1)).trans hx240_1
                replace hx240_2 := (HB.out.cell (World.block_lt_of_cell? w _ hx240_2)).trans hx240_2
                replace hx240_3 := (HB.out.cell (World.block_lt_of_cell? w _ hx240_3)).trans hx240_3
                replace hx240_4 := (HB.out.cell (World.block_lt_of_cell? w _ hx240_4)).trans hx240_4
                replace hx240_5 := (HB.out.cell (World.block_lt_of_cell? w _ hx240_5)).trans hx240_5
                replace hx240_6 := (HB.out.cell (World.block_lt_of_cell? w _ hx240_6)).trans hx240_6
                have HR240_2 := Aside0.mk hi240_2
                have HC240_2 := Aside0.mk hl240_2
                clear hi240_2 hl240_2
                have HR240_5 := Aside0.mk hi240_5
                have HC240_5 := Aside0.mk hl240_5
                clear hi240_5 hl240_5
                have HR240_6 := Aside0.mk hi240_6
                have HC240_6 := Aside0.mk hl240_6
                clear hi240_6 hl240_6
                replace p240 := eq_true p240
                replace q240 := eq_true q240
                go_wp2_with (first | ((with_reducible refine gate_callee (f := 23) rfl ?_); refine goesL_ (some 26) rfl rfl Try.func23 (by kernel_rfl) rfl #[.agg #[.int .i64 ((rd_T26 l0_2 x4_2).f0), .string ((rd_T26 l0_2 x4_2).f1), .slice A240_2 ((rd_T26 l0_2 x4_2).f2).length c240_2, .bool ((rd_T26 l0_2 x4_2).f3), .bool ((rd_T26 l0_2 x4_2).f4), .slice A240_5 ((rd_T26 l0_2 x4_2).f5).length c240_5, .slice A240_6 ((rd_T26 l0_2 x4_2).f6).length c240_6]] rfl (by (try simp only [List.map_toArray, List.map_cons, List.map_nil]); first | done | rfl | (simp only [List.length_drop, List.length_take]; rfl)) ?_; (with_reducible refine (ih k2 (by have := HJ1.out; have := HK2.out; omega) ((rd_T26 l0_2 x4_2).f0) ((rd_T26 l0_2 x4_2).f1) _ _ ((rd_T26 l0_2 x4_2).f2) ((rd_T26 l0_2 x4_2).f3) ((rd_T26 l0_2 x4_2).f4) _ _ ((rd_T26 l0_2 x4_2).f5) _ _ ((rd_T26 l0_2 x4_2).f6) t241 _ ?side1 ?side2 ?side3 ?side4 ?side5 ?side6 A11.out).mono ?_); (case side1 => repeat (first | exact (Kd.C_below HR240_2.out HB.out) | (with_reducible refine Kd.C_alloc ?_ _) | (with_reducible refine Kd.C_drewN ?_ _) | (with_reducible refine Kd.C_drew ?_))); (case side2 => exact HC240_2.out); (case side3 => repeat (first | exact (Kd.C_below HR240_5.out HB.out) | (with_reducible refine Kd.C_alloc ?_ _) | (with_reducible refine Kd.C_drewN ?_ _) | (with_reducible refine Kd.C_drew ?_))); (case side4 => exact HC240_5.out); (case side5 => repeat (first | exact (Kd.C_below HR240_6.out HB.out) | (with_reducible refine Kd.C_alloc ?_ _) | (with_reducible refine Kd.C_drewN ?_ _) | (with_reducible refine Kd.C_drew ?_))); (case side6 => exact HC240_6.out); rintro e w14 ⟨v242, rfl, ho0, hb⟩; refine ⟨_, rfl, ?_⟩; have n0_ := Aside0.mk (Kd.R_elder' (by (with_reducible repeat (first | apply Kd.R_alloc | apply Kd.R_drewN | apply Kd.R_drew)); exact HO_3.out) (Kd.R_base ho0) hb); have n1_ := Aside0.mk (Kd.R_lower (Kd.R_new' ho0 (Kd.R_lt (by (with_reducible repeat (first | apply Kd.R_alloc | apply Kd.R_drewN | apply Kd.R_drew)); exact HO_3.out))) (below_size (by repeat (first | (with_reducible first | exact HB.out | apply below_alloc | apply pw_below_drewN | apply below_drew1 | refine below_set ?_ GE236.out) | exact HB.out)))); have n2_ := Aside0.mk (blk_below (g := gb236) (o := .cells #[.int .i64 a0_0, .string a0_1, .slice (some ad240) l0_2.length c0_2, .bool a0_3, .bool a0_4, .slice A0_5 l0_5.length c0_5, .slice A0_6 l0_6.length c0_6] 26 (0, 0)) (by (with_reducible repeat (first | refine blk_drewN ?_ _ | refine blk_drew ?_ | refine blk_alloc ?_ _)); exact BK236.out) hb); have n3_ := Aside0.mk (below_step (by repeat (first | (with_reducible first | exact HB.out | apply below_alloc | apply pw_below_drewN | apply below_drew1 | refine below_set ?_ GE236.out) | exact HB.out)) hb); clear HO_3; clear BK236; clear HB; have HO_3 := n0_; have HO243 := n1_; have BK236 := n2_; have HB := n3_; clear n0_ n1_ n2_ n3_; (try clear hb); (try clear hb2); (try clear hk); (try clear hi); (try clear ho0); obtain ⟨Ao16, co16, eo16⟩ := Kd.R_slice HO243.out; subst eo16) | ((with_reducible refine gate_builtin (b := .append) (xs := #[.tmp 20, .tmp 26]) rfl ?_); at_builtin; refine Kd.R_append_rows Kd.string (w0 := w) w.heap.size rfl (.tmp 20) (.tmp 26) 22 9 (.string ⟨#[]⟩) 16 rfl Try.underlying22 info9 rfl (by decide) (by omega) u3 x3_2 t241 _ _ _ (fun k_ => some k_ ≠ (.slice Ao16 t241.length co16 : Value).ownBlock) (fun _ => False) rfl rfl ?aO ?aR (fun _ _ h => h) (fun _ h => h.elim) ?aF ?aB ?aS ?aL ?_; (case aR => repeat (first | exact (Kd.R_reads' HO243.out).2.2 | (with_reducible refine Kd.C_alloc ?_ _) | (with_reducible refine Kd.C_drewN ?_ _) | (with_reducible refine Kd.C_drew ?_))); (case aB => exact (by repeat (first | (with_reducible first | exact HB.out | apply below_alloc | apply pw_below_drewN | apply below_drew1 | refine below_set ?_ GE236.out) | exact HB.out))); (case aF => exact (fun k_ hk => Kd.fresh' (Kd.R_lt (by (with_reducible repeat (first | apply Kd.R_alloc | apply Kd.R_drewN | apply Kd.R_drew)); exact HO243.out)) k_ hk)); (case aO => exact (by (with_reducible repeat (first | apply Kd.R_alloc | apply Kd.R_drewN | apply Kd.R_drew)); exact Kd.R_mono HO_3.out (fun _ hk => hk.2))); (case aS => exact (below_size (by repeat (first | (with_reducible first | exact HB.out | apply below_alloc | apply pw_below_drewN | apply below_drew1 | refine below_set ?_ GE236.out) | exact HB.out)))); (case aL => have := LMc12.out; omega); intro v245 w15 ho hb hg hat; rw [← Ny244.out] at ho; have n0_ := Aside0.mk (blk_grown (g := gb236) (o := .cells #[.int .i64 a0_0, .string a0_1, .slice (some ad240) l0_2.length c0_2, .bool a0_3, .bool a0_4, .slice A0_5 l0_5.length c0_5, .slice A0_6 l0_6.length c0_6] 26 (0, 0)) (by (with_reducible repeat (first | refine blk_drewN ?_ _ | refine blk_drew ?_ | refine blk_alloc ?_ _)); exact BK236.out) hg (Kd.R_ne HO_3.out BK236.out (by decide))); have n1_ := Aside0.mk (Kd.R_after (ok := (fun _ => True)) (by (with_reducible repeat (first | apply Kd.R_alloc | apply Kd.R_drewN | apply Kd.R_drew)); exact HO243.out) hg hat); have n2_ := Aside0.mk (hb); have n3_ := Aside0.mk (ho); clear BK236; clear HO243; clear HB; clear HO_3; have BK236 := n0_; have HO243 := n1_; have HB := n2_; have HO246 := n3_; clear n0_ n1_ n2_ n3_; clear ho hb hg hat))
                go_roundg k2
                case measure => have := HJ1.out; have := HK2.out; omega
                case rel => exact ⟨(y244), (wrap64 (x4_2 + 1)), (by first | rfl | (simp; done) | (simp [*]; done)), H', ⟨by have := HJ1.out; have := HK2.out; omega⟩, ⟨by (with_reducible repeat (first | apply Kd.R_alloc | apply Kd.R_drewN | apply Kd.R_drew)); exact Kd.R_mono HO246.out (fun _ hk => trivial)⟩, ⟨by (with_reducible repeat (first | refine blk_drewN ?_ _ | refine blk_drew ?_ | refine blk_alloc ?_ _)); exact BK236.out⟩, ⟨by repeat (first | (with_reducible first | exact HB.out | apply below_alloc | apply pw_below_drewN | apply below_drew1 | refine below_set ?_ GE236.out) | exact HB.out)⟩⟩
              · rw [if_neg c12] at H
                exact absurd H (by simp)
            · rw [if_neg c10] at H
              exact absurd H (by simp)
          · rw [if_neg c9] at H
            have c9b0 : decide (x4_2 < (l0_2.length : Int)) = false := decide_eq_false c9
            clear c9
            obtain rfl := Option.some.inj H
            have hcz17_0 : wr.cell? ⟨gb236, 0, none⟩ = some (.int .i64 a0_0) := (blk_cell BK236.out 0).trans rfl
            have hcz17_1 : wr.cell? ⟨gb236, 1, none⟩ = some (.string a0_1) := (blk_cell BK236.out 1).trans rfl
            have hcz17_2 : wr.cell? ⟨gb236, 2, none⟩ = some (.slice A0_2 l0_2.length c0_2) := (blk_cell BK236.out 2).trans rfl
            have hcz17_3 : wr.cell? ⟨gb236, 3, none⟩ = some (.bool a0_3) := (blk_cell BK236.out 3).trans rfl
            have hcz17_4 : wr.cell? ⟨gb236, 4, none⟩ = some (.bool a0_4) := (blk_cell BK236.out 4).trans rfl
            have hcz17_5 : wr.cell? ⟨gb236, 5, none⟩ = some (.slice A0_5 l0_5.length c0_5) := (blk_cell BK236.out 5).trans rfl
            have hcz17_6 : wr.cell? ⟨gb236, 6, none⟩ = some (.slice A0_6 l0_6.length c0_6) := (blk_cell BK236.out 6).trans rfl
            have hfz17_0 := blk_frozen BK236.out 0
            have hfz17_1 := blk_frozen BK236.out 1
            have hfz17_2 := blk_frozen BK236.out 2
            have hfz17_3 := blk_frozen BK236.out 3
            have hfz17_4 := blk_frozen BK236.out 4
            have hfz17_5 := blk_frozen BK236.out 5
            have hfz17_6 := blk_frozen BK236.out 6
            go_wp2
            go_ret
            exact ⟨_, by first | rfl | (simp [errW_none, errW_some] <;> rfl) | (simp [*, errW_none, errW_some] <;> rfl), by (with_reducible repeat (first | apply Kd.R_alloc | apply Kd.R_drewN | apply Kd.R_drew)); exact HO_3.out, by repeat (first | (with_reducible first | exact HB.out | apply below_alloc | apply pw_below_drewN | apply below_drew1 | refine below_set ?_ GE236.out) | exact HB.out)⟩

/-! ### galleyref9_Forced: function 25 -/
mutual
def galleyref9_Forced.j0 : Nat → Bool → Int → ByteArray → List (S26) → Bool → Bool → List ByteArray → List ByteArray → Option (Bool)
  | 0, _, _, _, _, _, _, _, _ => none
  | k + 1, x17, x248000, x248001, x248002, x248003, x248004, x248005, x248006 => if x17 = true then (some true) else (galleyref9_Forced.l0 k 0 x248000 x248001 x248002 x248003 x248004 x248005 x248006)
def galleyref9_Forced.l0 : Nat → Int → Int → ByteArray → List (S26) → Bool → Bool → List ByteArray → List ByteArray → Option (Bool)
  | 0, _, _, _, _, _, _, _, _ => none
  | k + 1, x3, x248000, x248001, x248002, x248003, x248004, x248005, x248006 => if x3 < (x248002.length : Int) then (if 0 ≤ x3 then ((galleyref9_Forced.f k ((rd_T26 x248002 x3).f0) ((rd_T26 x248002 x3).f1) ((rd_T26 x248002 x3).f2) ((rd_T26 x248002 x3).f3) ((rd_T26 x248002 x3).f4) ((rd_T26 x248002 x3).f5) ((rd_T26 x248002 x3).f6)).bind fun t249 => (if t249 = true then (some true) else (galleyref9_Forced.l0 k (wrap64 (x3 + 1)) x248000 x248001 x248002 x248003 x248004 x248005 x248006))) else (none)) else (some false)
def galleyref9_Forced.f : Nat → Int → ByteArray → List (S26) → Bool → Bool → List ByteArray → List ByteArray → Option (Bool)
  | 0, _, _, _, _, _, _, _ => none
  | k + 1, a0_0, a0_1, l0_2, a0_3, a0_4, l0_5, l0_6 => if a0_3 = true then (galleyref9_Forced.j0 k true a0_0 a0_1 l0_2 a0_3 a0_4 l0_5 l0_6) else (if (l0_5.length : Int) > 0 then (galleyref9_Forced.j0 k true a0_0 a0_1 l0_2 a0_3 a0_4 l0_5 l0_6) else (galleyref9_Forced.j0 k (decide ((l0_6.length : Int) > 0)) a0_0 a0_1 l0_2 a0_3 a0_4 l0_5 l0_6))
end
theorem galleyref9_Forced.mono_l : ∀ k, (∀ y0 y1 y2 y3 y4 y5 y6, LeO (galleyref9_Forced.f k y0 y1 y2 y3 y4 y5 y6) (galleyref9_Forced.f (k + 1) y0 y1 y2 y3 y4 y5 y6)) ∧ (∀ y0 y1 y2 y3 y4 y5 y6 y7, LeO (galleyref9_Forced.j0 k y0 y1 y2 y3 y4 y5 y6 y7) (galleyref9_Forced.j0 (k + 1) y0 y1 y2 y3 y4 y5 y6 y7)) ∧ (∀ y0 y1 y2 y3 y4 y5 y6 y7, LeO (galleyref9_Forced.l0 k y0 y1 y2 y3 y4 y5 y6 y7) (galleyref9_Forced.l0 (k + 1) y0 y1 y2 y3 y4 y5 y6 y7))
  | 0 => ⟨fun _ _ _ _ _ _ _ r h => by simp [galleyref9_Forced.f] at h, fun _ _ _ _ _ _ _ _ r h => by simp [galleyref9_Forced.j0] at h, fun _ _ _ _ _ _ _ _ r h => by simp [galleyref9_Forced.l0] at h⟩
  | k + 1 => by
    obtain ⟨ih0, ih1, ih2⟩ := galleyref9_Forced.mono_l k
    refine ⟨?_, ?_, ?_⟩
    · intro y0 y1 y2 y3 y4 y5 y6
      unfold galleyref9_Forced.f
      repeat' first
      | (with_reducible exact ih0 _ _ _ _ _ _ _)
      | (with_reducible exact ih1 _ _ _ _ _ _ _ _)
      | (with_reducible exact ih2 _ _ _ _ _ _ _ _)
      | (with_reducible exact LeO.refl _)
      | (with_reducible exact LeO.none _)
      | (with_reducible refine LeO.ite ?_ ?_)
      | (with_reducible refine LeO.bind ?_ (fun _ => ?_))
      | exact ih0 _ _ _ _ _ _ _
      | exact ih1 _ _ _ _ _ _ _ _
      | exact ih2 _ _ _ _ _ _ _ _
      | exact LeO.none _
      | refine LeO.ite ?_ ?_
      | refine LeO.bind ?_ (fun _ => ?_)
    · intro y0 y1 y2 y3 y4 y5 y6 y7
      unfold galleyref9_Forced.j0
      repeat' first
      | (with_reducible exact ih0 _ _ _ _ _ _ _)
      | (with_reducible exact ih1 _ _ _ _ _ _ _ _)
      | (with_reducible exact ih2 _ _ _ _ _ _ _ _)
      | (with_reducible exact LeO.refl _)
      | (with_reducible exact LeO.none _)
      | (with_reducible refine LeO.ite ?_ ?_)
      | (with_reducible refine LeO.bind ?_ (fun _ => ?_))
      | exact ih0 _ _ _ _ _ _ _
      | exact ih1 _ _ _ _ _ _ _ _
      | exact ih2 _ _ _ _ _ _ _ _
      | exact LeO.none _
      | refine LeO.ite ?_ ?_
      | refine LeO.bind ?_ (fun _ => ?_)
    · intro y0 y1 y2 y3 y4 y5 y6 y7
      unfold galleyref9_Forced.l0
      repeat' first
      | (with_reducible exact ih0 _ _ _ _ _ _ _)
      | (with_reducible exact ih1 _ _ _ _ _ _ _ _)
      | (with_reducible exact ih2 _ _ _ _ _ _ _ _)
      | (with_reducible exact LeO.refl _)
      | (with_reducible exact LeO.none _)
      | (with_reducible refine LeO.ite ?_ ?_)
      | (with_reducible refine LeO.bind ?_ (fun _ => ?_))
      | exact ih0 _ _ _ _ _ _ _
      | exact ih1 _ _ _ _ _ _ _ _
      | exact ih2 _ _ _ _ _ _ _ _
      | exact LeO.none _
      | refine LeO.ite ?_ ?_
      | refine LeO.bind ?_ (fun _ => ?_)
theorem galleyref9_Forced.mono : ∀ a0 a1 a2 a3 a4 a5 a6 k, LeO (galleyref9_Forced.f k a0 a1 a2 a3 a4 a5 a6) (galleyref9_Forced.f (k + 1) a0 a1 a2 a3 a4 a5 a6) := by
  intro a0 a1 a2 a3 a4 a5 a6 k
  obtain ⟨ih0, ih1, ih2⟩ := galleyref9_Forced.mono_l k
  exact ih0 a0 a1 a2 a3 a4 a5 a6
set_option maxHeartbeats 8000000 in
set_option maxRecDepth 100000 in
theorem galleyref9_Forced.calls (k : Nat) : ∀ (a0_0 : Int) (a0_1 : ByteArray) (A0_2 : Option Addr) (c0_2 : Nat) (l0_2 : List (S26)) (a0_3 : Bool) (a0_4 : Bool) (A0_5 : Option Addr) (c0_5 : Nat) (l0_5 : List ByteArray) (A0_6 : Option Addr) (c0_6 : Nat) (l0_6 : List ByteArray) (r : Bool) (w : World) (hr0_2 : Kd.C k26 w A0_2 l0_2.length l0_2) (hc0_2 : l0_2.length ≤ c0_2) (hr0_5 : Kd.C Kd.string w A0_5 l0_5.length l0_5) (hc0_5 : l0_5.length ≤ c0_5) (hr0_6 : Kd.C Kd.string w A0_6 l0_6.length l0_6) (hc0_6 : l0_6.length ≤ c0_6) (h : galleyref9_Forced.f k a0_0 a0_1 l0_2 a0_3 a0_4 l0_5 l0_6 = some r),
    Calls Try.prog 25 #[.agg #[.int .i64 a0_0, .string a0_1, .slice A0_2 l0_2.length c0_2, .bool a0_3, .bool a0_4, .slice A0_5 l0_5.length c0_5, .slice A0_6 l0_6.length c0_6]] w fun e w' => e = .returned (.bool r) ∧ Below w.heap.size w w' := by
  induction k using Nat.strongRecOn with
  | _ k ih =>
  intro a0_0 a0_1 A0_2 c0_2 l0_2 a0_3 a0_4 A0_5 c0_5 l0_5 A0_6 c0_6 l0_6 r w hr0_2 hc0_2 hr0_5 hc0_5 hr0_6 hc0_6 h
  cases k with
  | zero => exact absurd h (by simp [galleyref9_Forced.f])
  | succ k =>
  simp only [galleyref9_Forced.f] at h
  have hu26 := Try.underlying26
  have HR0_2 := Aside0.mk hr0_2
  have HC0_2 := Aside0.mk hc0_2
  clear hr0_2 hc0_2
  have HR0_5 := Aside0.mk hr0_5
  have HC0_5 := Aside0.mk hc0_5
  clear hr0_5 hc0_5
  have HR0_6 := Aside0.mk hr0_6
  have HC0_6 := Aside0.mk hc0_6
  clear hr0_6 hc0_6
  have HB := Aside0.mk (Below.refl w.heap.size w)
  have H : (if a0_3 = true then (galleyref9_Forced.j0 k true a0_0 a0_1 l0_2 a0_3 a0_4 l0_5 l0_6) else (if (l0_5.length : Int) > 0 then (galleyref9_Forced.j0 k true a0_0 a0_1 l0_2 a0_3 a0_4 l0_5 l0_6) else (galleyref9_Forced.j0 k (decide ((l0_6.length : Int) > 0)) a0_0 a0_1 l0_2 a0_3 a0_4 l0_5 l0_6))) = some r := h
  clear h
  have HC2 := Aside0.mk H
  clear H
  go_enter Try.func25, Try.ntmps25
  go_upto_region 1 with (first | ((with_reducible refine gate_dst (N := 1) rfl ?_); (try (refine gate_guard (by rfl) ?_; dsimp only)); refine box_event ?hg (N := 1) ?hd (cs := #[.int .i64 a0_0, .string a0_1, .slice A0_2 l0_2.length c0_2, .bool a0_3, .bool a0_4, .slice A0_5 l0_5.length c0_5, .slice A0_6 l0_6.length c0_6]) (t := 26) ?hr ?_; (case hd => rfl); (case hg => rfl); (case hr => first | (go_simp; done) | (go_simp; rfl)); intro gb247 hg w3 hbox hb; have n0_ := Aside0.mk (below_step (by repeat (first | (with_reducible first | exact HB.out | apply below_alloc | apply pw_below_drewN | apply below_drew1) | exact HB.out)) hb); have n1_ := Aside0.mk (hbox); have n2_ := Aside0.mk ((by rw [hg]; exact (below_size (by repeat (first | (with_reducible first | exact HB.out | apply below_alloc | apply pw_below_drewN | apply below_drew1) | exact HB.out))) : w.heap.size ≤ gb247)); have n3_ := Aside0.mk ((by rw [hg]; exact (below_size (by repeat (first | (with_reducible first | exact HB.out | apply below_alloc | apply pw_below_drewN | apply below_drew1) | exact HB.out))) : w.heap.size ≤ gb247)); clear HB; have HB := n0_; have BK247 := n1_; have GW247 := n2_; have GE247 := n3_; clear n0_ n1_ n2_ n3_; clear hb hbox hg))
  (try simp only [Act.put, List.setIfInBounds_toArray, List.set_cons_zero, List.set_cons_succ])
  go_cut [17] (fun v17 wc => ∃ (kq : Nat) (x17_1 : Bool), v17 = .bool x17_1 ∧ Aside0 (galleyref9_Forced.j0 kq x17_1 a0_0 a0_1 l0_2 a0_3 a0_4 l0_5 l0_6 = some r) ∧ Aside0 (kq ≤ k) ∧ Aside0 (wc.heap[gb247]? = some (.cells #[.int .i64 a0_0, .string a0_1, (.slice A0_2 l0_2.length c0_2), .bool a0_3, .bool a0_4, (.slice A0_5 l0_5.length c0_5), (.slice A0_6 l0_6.length c0_6)] 26 (0, 0))) ∧ Aside0 (Below w.heap.size w wc))
  case first =>
    have H := HC2.out
    clear HC2
    by_cases c4 : a0_3 = true
    · subst c4
      have H1 : (galleyref9_Forced.j0 k true a0_0 a0_1 l0_2 true a0_4 l0_5 l0_6) = some r := by rw [if_pos rfl] at H; exact H
      clear H
      have H := H1
      clear H1
      have H' := Aside0.mk H
      clear H
      have hcz5_0 : w3.cell? ⟨gb247, 0, none⟩ = some (.int .i64 a0_0) := (blk_cell BK247.out 0).trans rfl
      have hcz5_1 : w3.cell? ⟨gb247, 1, none⟩ = some (.string a0_1) := (blk_cell BK247.out 1).trans rfl
      have hcz5_2 : w3.cell? ⟨gb247, 2, none⟩ = some (.slice A0_2 l0_2.length c0_2) := (blk_cell BK247.out 2).trans rfl
      have hcz5_3 : w3.cell? ⟨gb247, 3, none⟩ = some (.bool true) := (blk_cell BK247.out 3).trans rfl
      have hcz5_4 : w3.cell? ⟨gb247, 4, none⟩ = some (.bool a0_4) := (blk_cell BK247.out 4).trans rfl
      have hcz5_5 : w3.cell? ⟨gb247, 5, none⟩ = some (.slice A0_5 l0_5.length c0_5) := (blk_cell BK247.out 5).trans rfl
      have hcz5_6 : w3.cell? ⟨gb247, 6, none⟩ = some (.slice A0_6 l0_6.length c0_6) := (blk_cell BK247.out 6).trans rfl
      have hfz5_0 := blk_frozen BK247.out 0
      have hfz5_1 := blk_frozen BK247.out 1
      have hfz5_2 := blk_frozen BK247.out 2
      have hfz5_3 := blk_frozen BK247.out 3
      have hfz5_4 := blk_frozen BK247.out 4
      have hfz5_5 := blk_frozen BK247.out 5
      have hfz5_6 := blk_frozen BK247.out 6
      go_wp2
      go_meet
      case rel => exact ⟨_, (true), (by first | rfl | (simp; done) | (simp [*]; done)), H', ⟨by first | omega | exact Nat.le_refl _⟩, ⟨by (with_reducible repeat (first | refine blk_drewN ?_ _ | refine blk_drew ?_ | refine blk_alloc ?_ _)); exact BK247.out⟩, ⟨by repeat (first | (with_reducible first | exact HB.out | apply below_alloc | apply pw_below_drewN | apply below_drew1 | refine below_set ?_ GE247.out) | exact HB.out)⟩⟩
    · replace c4 := Bool.eq_false_iff.mpr c4
      subst c4
      have H1 : (if (l0_5.length : Int) > 0 then (galleyref9_Forced.j0 k true a0_0 a0_1 l0_2 false a0_4 l0_5 l0_6) else (galleyref9_Forced.j0 k (decide ((l0_6.length : Int) > 0)) a0_0 a0_1 l0_2 false a0_4 l0_5 l0_6)) = some r := by rw [if_neg (show ¬ (false = true) by decide)] at H; exact H
      clear H
      have H := H1
      clear H1
      by_cases c6 : (l0_5.length : Int) > 0
      · rw [if_pos c6] at H
        have c6b0 : decide (0 < (l0_5.length : Int)) = true := decide_eq_true c6
        have c6b1 : decide (0 < l0_5.length) = true := decide_eq_true (by omega)
        clear c6
        (first | rw [c6b0] | (simp only [i64_w, i32_w]; rw [c6b0]) | skip)
        have H' := Aside0.mk H
        clear H
        have hcz7_0 : w3.cell? ⟨gb247, 0, none⟩ = some (.int .i64 a0_0) := (blk_cell BK247.out 0).trans rfl
        have hcz7_1 : w3.cell? ⟨gb247, 1, none⟩ = some (.string a0_1) := (blk_cell BK247.out 1).trans rfl
        have hcz7_2 : w3.cell? ⟨gb247, 2, none⟩ = some (.slice A0_2 l0_2.length c0_2) := (blk_cell BK247.out 2).trans rfl
        have hcz7_3 : w3.cell? ⟨gb247, 3, none⟩ = some (.bool false) := (blk_cell BK247.out 3).trans rfl
        have hcz7_4 : w3.cell? ⟨gb247, 4, none⟩ = some (.bool a0_4) := (blk_cell BK247.out 4).trans rfl
        have hcz7_5 : w3.cell? ⟨gb247, 5, none⟩ = some (.slice A0_5 l0_5.length c0_5) := (blk_cell BK247.out 5).trans rfl
        have hcz7_6 : w3.cell? ⟨gb247, 6, none⟩ = some (.slice A0_6 l0_6.length c0_6) := (blk_cell BK247.out 6).trans rfl
        have hfz7_0 := blk_frozen BK247.out 0
        have hfz7_1 := blk_frozen BK247.out 1
        have hfz7_2 := blk_frozen BK247.out 2
        have hfz7_3 := blk_frozen BK247.out 3
        have hfz7_4 := blk_frozen BK247.out 4
        have hfz7_5 := blk_frozen BK247.out 5
        have hfz7_6 := blk_frozen BK247.out 6
        go_wp2
        go_meet
        case rel => exact ⟨_, (true), (by first | rfl | (simp; done) | (simp [*]; done)), H', ⟨by first | omega | exact Nat.le_refl _⟩, ⟨by (with_reducible repeat (first | refine blk_drewN ?_ _ | refine blk_drew ?_ | refine blk_alloc ?_ _)); exact BK247.out⟩, ⟨by repeat (first | (with_reducible first | exact HB.out | apply below_alloc | apply pw_below_drewN | apply below_drew1 | refine below_set ?_ GE247.out) | exact HB.out)⟩⟩
      · rw [if_neg c6] at H
        have c6b0 : decide (0 < (l0_5.length : Int)) = false := decide_eq_false c6
        have c6b1 : decide (0 < l0_5.length) = false := decide_eq_false (by omega)
        clear c6
        (first | rw [c6b0] | (simp only [i64_w, i32_w]; rw [c6b0]) | skip)
        have H' := Aside0.mk H
        clear H
        have hcz8_0 : w3.cell? ⟨gb247, 0, none⟩ = some (.int .i64 a0_0) := (blk_cell BK247.out 0).trans rfl
        have hcz8_1 : w3.cell? ⟨gb247, 1, none⟩ = some (.string a0_1) := (blk_cell BK247.out 1).trans rfl
        have hcz8_2 : w3.cell? ⟨gb247, 2, none⟩ = some (.slice A0_2 l0_2.length c0_2) := (blk_cell BK247.out 2).trans rfl
        have hcz8_3 : w3.cell? ⟨gb247, 3, none⟩ = some (.bool false) := (blk_cell BK247.out 3).trans rfl
        have hcz8_4 : w3.cell? ⟨gb247, 4, none⟩ = some (.bool a0_4) := (blk_cell BK247.out 4).trans rfl
        have hcz8_5 : w3.cell? ⟨gb247, 5, none⟩ = some (.slice A0_5 l0_5.length c0_5) := (blk_cell BK247.out 5).trans rfl
        have hcz8_6 : w3.cell? ⟨gb247, 6, none⟩ = some (.slice A0_6 l0_6.length c0_6) := (blk_cell BK247.out 6).trans rfl
        have hfz8_0 := blk_frozen BK247.out 0
        have hfz8_1 := blk_frozen BK247.out 1
        have hfz8_2 := blk_frozen BK247.out 2
        have hfz8_3 := blk_frozen BK247.out 3
        have hfz8_4 := blk_frozen BK247.out 4
        have hfz8_5 := blk_frozen BK247.out 5
        have hfz8_6 := blk_frozen BK247.out 6
        go_wp2
        go_meet
        case rel => exact ⟨_, (decide ((l0_6.length : Int) > 0)), (by first | rfl | (simp; done) | (simp [*]; done)), H', ⟨by first | omega | exact Nat.le_refl _⟩, ⟨by (with_reducible repeat (first | refine blk_drewN ?_ _ | refine blk_drew ?_ | refine blk_alloc ?_ _)); exact BK247.out⟩, ⟨by repeat (first | (with_reducible first | exact HB.out | apply below_alloc | apply pw_below_drewN | apply below_drew1 | refine below_set ?_ GE247.out) | exact HB.out)⟩⟩
  case rest =>
    clear HC2
    try clear c2
    try clear p2
    try clear c4
    try clear c6
    try clear c6b0
    try clear c6b1
    try clear hcz5_0
    try clear hcz5_1
    try clear hcz5_2
    try clear hcz5_3
    try clear hcz5_4
    try clear hcz5_5
    try clear hcz5_6
    try clear hcz7_0
    try clear hcz7_1
    try clear hcz7_2
    try clear hcz7_3
    try clear hcz7_4
    try clear hcz7_5
    try clear hcz7_6
    try clear hcz8_0
    try clear hcz8_1
    try clear hcz8_2
    try clear hcz8_3
    try clear hcz8_4
    try clear hcz8_5
    try clear hcz8_6
    try clear hfz5_0
    try clear hfz5_1
    try clear hfz5_2
    try clear hfz5_3
    try clear hfz5_4
    try clear hfz5_5
    try clear hfz5_6
    try clear hfz7_0
    try clear hfz7_1
    try clear hfz7_2
    try clear hfz7_3
    try clear hfz7_4
    try clear hfz7_5
    try clear hfz7_6
    try clear hfz8_0
    try clear hfz8_1
    try clear hfz8_2
    try clear hfz8_3
    try clear hfz8_4
    try clear hfz8_5
    try clear hfz8_6
    obtain ⟨kq, x17_1, rfl, HA, HJ1, BK247, HB⟩ := hcut
    cases kq with
    | zero => exact absurd HA.out (by simp [galleyref9_Forced.j0])
    | succ kj1 =>
      have H := HA.out
      clear HA
      simp only [galleyref9_Forced.j0] at H
      by_cases c9 : x17_1 = true
      · subst c9
        have H1 : (some true) = some r := by rw [if_pos rfl] at H; exact H
        clear H
        have H := H1
        clear H1
        obtain rfl := Option.some.inj H
        go_wp2
        go_ret
        exact ⟨by first | rfl | (simp [errW_none, errW_some] <;> rfl) | (simp [*, errW_none, errW_some] <;> rfl), by repeat (first | (with_reducible first | exact HB.out | apply below_alloc | apply pw_below_drewN | apply below_drew1 | refine below_set ?_ GE247.out) | exact HB.out)⟩
      · replace c9 := Bool.eq_false_iff.mpr c9
        subst c9
        have H1 : (galleyref9_Forced.l0 kj1 0 a0_0 a0_1 l0_2 a0_3 a0_4 l0_5 l0_6) = some r := by rw [if_neg (show ¬ (false = true) by decide)] at H; exact H
        clear H
        have H := H1
        clear H1
        have H' := Aside0.mk H
        clear H
        go_wp2
        go_loopg [3] kj1 (fun kq v3 w' => ∃ (x3_2 : Int), v3 = .int .i64 x3_2 ∧ Aside0 (galleyref9_Forced.l0 kq x3_2 a0_0 a0_1 l0_2 a0_3 a0_4 l0_5 l0_6 = some r) ∧ Aside0 (kq ≤ kj1) ∧ Aside0 (w'.heap[gb247]? = some (.cells #[.int .i64 a0_0, .string a0_1, (.slice A0_2 l0_2.length c0_2), .bool a0_3, .bool a0_4, (.slice A0_5 l0_5.length c0_5), (.slice A0_6 l0_6.length c0_6)] 26 (0, 0))) ∧ Aside0 (Below w.heap.size w w'))
        case atStart => exact ⟨(0), (by first | rfl | (simp; done) | (simp [*]; done)), H', ⟨Nat.le_refl _⟩, ⟨by (with_reducible repeat (first | refine blk_drewN ?_ _ | refine blk_drew ?_ | refine blk_alloc ?_ _)); exact BK247.out⟩, ⟨by repeat (first | (with_reducible first | exact HB.out | apply below_alloc | apply pw_below_drewN | apply below_drew1 | refine below_set ?_ GE247.out) | exact HB.out)⟩⟩
        case round =>
          clear H'
          try clear c2
          try clear p2
          try clear c4
          try clear c6
          try clear c6b0
          try clear c6b1
          try clear c9
          try clear hcz5_0
          try clear hcz5_1
          try clear hcz5_2
          try clear hcz5_3
          try clear hcz5_4
          try clear hcz5_5
          try clear hcz5_6
          try clear hcz7_0
          try clear hcz7_1
          try clear hcz7_2
          try clear hcz7_3
          try clear hcz7_4
          try clear hcz7_5
          try clear hcz7_6
          try clear hcz8_0
          try clear hcz8_1
          try clear hcz8_2
          try clear hcz8_3
          try clear hcz8_4
          try clear hcz8_5
          try clear hcz8_6
          try clear hfz5_0
          try clear hfz5_1
          try clear hfz5_2
          try clear hfz5_3
          try clear hfz5_4
          try clear hfz5_5
          try clear hfz5_6
          try clear hfz7_0
          try clear hfz7_1
          try clear hfz7_2
          try clear hfz7_3
          try clear hfz7_4
          try clear hfz7_5
          try clear hfz7_6
          try clear hfz8_0
          try clear hfz8_1
          try clear hfz8_2
          try clear hfz8_3
          try clear hfz8_4
          try clear hfz8_5
          try clear hfz8_6
          try clear p2
          obtain ⟨x3_2, rfl, HA, HK2, BK247, HB⟩ := hrel
          cases gk with
          | zero => exact absurd HA.out (by simp [galleyref9_Forced.l0])
          | succ k2 =>
            have H := HA.out
            clear HA
            simp only [galleyref9_Forced.l0] at H
            by_cases c10 : x3_2 < (l0_2.length : Int)
            · rw [if_pos c10] at H
              have c10b0 : decide (x3_2 < (l0_2.length : Int)) = true := decide_eq_true c10
              clear c10
              by_cases c11 : 0 ≤ x3_2
              · rw [if_pos c11] at H
                have c11b0 : decide (0 ≤ x3_2) = true := decide_eq_true c11
                clear c11
                replace H := Option.bind_eq_some_iff.mp H
                obtain ⟨t249, A120, H⟩ := H
                replace H : (if t249 = true then (some true) else (galleyref9_Forced.l0 k2 (wrap64 (x3_2 + 1)) a0_0 a0_1 l0_2 a0_3 a0_4 l0_5 l0_6)) = some r := H
                have A12 := Aside0.mk A120
                clear A120
                by_cases c13 : t249 = true
                · subst c13
                  have H1 : (some true) = some r := by rw [if_pos rfl] at H; exact H
                  clear H
                  have H := H1
                  clear H1
                  obtain rfl := Option.some.inj H
                  have hcz14_0 : wr.cell? ⟨gb247, 0, none⟩ = some (.int .i64 a0_0) := (blk_cell BK247.out 0).trans rfl
                  have hcz14_1 : wr.cell? ⟨gb247, 1, none⟩ = some (.string a0_1) := (blk_cell BK247.out 1).trans rfl
                  have hcz14_2 : wr.cell? ⟨gb247, 2, none⟩ = some (.slice A0_2 l0_2.length c0_2) := (blk_cell BK247.out 2).trans rfl
                  have hcz14_3 : wr.cell? ⟨gb247, 3, none⟩ = some (.bool a0_3) := (blk_cell BK247.out 3).trans rfl
                  have hcz14_4 : wr.cell? ⟨gb247, 4, none⟩ = some (.bool a0_4) := (blk_cell BK247.out 4).trans rfl
                  have hcz14_5 : wr.cell? ⟨gb247, 5, none⟩ = some (.slice A0_5 l0_5.length c0_5) := (blk_cell BK247.out 5).trans rfl
                  have hcz14_6 : wr.cell? ⟨gb247, 6, none⟩ = some (.slice A0_6 l0_6.length c0_6) := (blk_cell BK247.out 6).trans rfl
                  have hfz14_0 := blk_frozen BK247.out 0
                  have hfz14_1 := blk_frozen BK247.out 1
                  have hfz14_2 := blk_frozen BK247.out 2
                  have hfz14_3 := blk_frozen BK247.out 3
                  have hfz14_4 := blk_frozen BK247.out 4
                  have hfz14_5 := blk_frozen BK247.out 5
                  have hfz14_6 := blk_frozen BK247.out 6
                  have p248 : 0 ≤ (x3_2 : Int) := of_decide_eq_true (by first | (with_reducible assumption) | assumption)
                  have q248 : x3_2 < (l0_2.length : Int) := of_decide_eq_true (by first | (with_reducible assumption) | assumption)
                  obtain ⟨ad248, A248_2, c248_2, A248_5, c248_5, A248_6, c248_6, e248, hx248_0, hx248_1, hx248_2, hx248_3, hx248_4, hx248_5, hx248_6, hl248_2, hi248_2, hl248_5, hi248_5, hl248_6, hi248_6⟩ := at_T26 HR0_2.out x3_2 p248 q248
                  cases e248
                  replace hx248_0 := (HB.out.cell (World.block_lt_of_cell? w _ hx248_0)).trans hx248_0
                  replace hx248_1 := (HB.out.cell (World.block_lt_of_cell? w _ hx248_1)).trans hx248_1
                  replace hx248_2 := (HB.out.cell (World.block_lt_of_cell? w _ hx248_2)).trans hx248_2
                  replace hx248_3 := (HB.out.cell (World.block_lt_of_cell? w _ hx248_3)).trans hx248_3
                  replace hx248_4 := (HB.out.cell (World.block_lt_of_cell? w _ hx248_4)).trans hx248_4
                  replace hx248_5 := (HB.out.cell (World.block_lt_of_cell? w _ hx248_5)).trans hx248_5
                  replace hx248_6 := (HB.out.cell (World.block_lt_of_cell? w _ hx248_6)).trans hx248_6
                  have HR248_2 := Aside0.mk hi248_2
                  have HC248_2 := Aside0.mk hl248_2
                  clear hi248_2 hl248_2
                  have HR248_5 := Aside0.mk hi248_5
                  have HC248_5 := Aside0.mk hl248_5
                  clear hi248_5 hl248_5
                  have HR248_6 := Aside0.mk hi248_6
                  have HC248_6 := Aside0.mk hl248_6
                  clear hi248_6 hl248_6
                  replace p248 := eq_true p248
                  replace q248 := eq_true q248
                  go_wp2_with (first | ((with_reducible refine gate_callee (f := 25) rfl ?_); refine goesL_ (some 30) rfl rfl Try.func25 (by kernel_rfl) rfl #[.agg #[.int .i64 ((rd_T26 l0_2 x3_2).f0), .string ((rd_T26 l0_2 x3_2).f1), .slice A248_2 ((rd_T26 l0_2 x3_2).f2).length c248_2, .bool ((rd_T26 l0_2 x3_2).f3), .bool ((rd_T26 l0_2 x3_2).f4), .slice A248_5 ((rd_T26 l0_2 x3_2).f5).length c248_5, .slice A248_6 ((rd_T26 l0_2 x3_2).f6).length c248_6]] rfl (by (try simp only [List.map_toArray, List.map_cons, List.map_nil]); first | done | rfl | (simp only [List.length_drop, List.length_take]; rfl)) ?_; (with_reducible refine (ih k2 (by have := HJ1.out; have := HK2.out; omega) ((rd_T26 l0_2 x3_2).f0) ((rd_T26 l0_2 x3_2).f1) _ _ ((rd_T26 l0_2 x3_2).f2) ((rd_T26 l0_2 x3_2).f3) ((rd_T26 l0_2 x3_2).f4) _ _ ((rd_T26 l0_2 x3_2).f5) _ _ ((rd_T26 l0_2 x3_2).f6) true _ ?side1 ?side2 ?side3 ?side4 ?side5 ?side6 A12.out).mono ?_); (case side1 => repeat (first | exact (Kd.C_below HR248_2.out HB.out) | (with_reducible refine Kd.C_alloc ?_ _) | (with_reducible refine Kd.C_drewN ?_ _) | (with_reducible refine Kd.C_drew ?_))); (case side2 => exact HC248_2.out); (case side3 => repeat (first | exact (Kd.C_below HR248_5.out HB.out) | (with_reducible refine Kd.C_alloc ?_ _) | (with_reducible refine Kd.C_drewN ?_ _) | (with_reducible refine Kd.C_drew ?_))); (case side4 => exact HC248_5.out); (case side5 => repeat (first | exact (Kd.C_below HR248_6.out HB.out) | (with_reducible refine Kd.C_alloc ?_ _) | (with_reducible refine Kd.C_drewN ?_ _) | (with_reducible refine Kd.C_drew ?_))); (case side6 => exact HC248_6.out); rintro e w15 ⟨rfl, hb⟩; refine ⟨_, rfl, ?_⟩; have n0_ := Aside0.mk (blk_below (g := gb247) (o := .cells #[.int .i64 a0_0, .string a0_1, .slice (some ad248) l0_2.length c0_2, .bool a0_3, .bool a0_4, .slice A0_5 l0_5.length c0_5, .slice A0_6 l0_6.length c0_6] 26 (0, 0)) (by (with_reducible repeat (first | refine blk_drewN ?_ _ | refine blk_drew ?_ | refine blk_alloc ?_ _)); exact BK247.out) hb); have n1_ := Aside0.mk (below_step (by repeat (first | (with_reducible first | exact HB.out | apply below_alloc | apply pw_below_drewN | apply below_drew1 | refine below_set ?_ GE247.out) | exact HB.out)) hb); clear BK247; clear HB; have BK247 := n0_; have HB := n1_; clear n0_ n1_; (try clear hb); (try clear hb2); (try clear hk); (try clear hi)))
                  go_ret
                  exact ⟨by first | rfl | (simp [errW_none, errW_some] <;> rfl) | (simp [*, errW_none, errW_some] <;> rfl), by repeat (first | (with_reducible first | exact HB.out | apply below_alloc | apply pw_below_drewN | apply below_drew1 | refine below_set ?_ GE247.out) | exact HB.out)⟩
                · replace c13 := Bool.eq_false_iff.mpr c13
                  subst c13
                  have H1 : (galleyref9_Forced.l0 k2 (wrap64 (x3_2 + 1)) a0_0 a0_1 l0_2 a0_3 a0_4 l0_5 l0_6) = some r := by rw [if_neg (show ¬ (false = true) by decide)] at H; exact H
                  clear H
                  have H := H1
                  clear H1
                  have H' := Aside0.mk H
                  clear H
                  have hcz16_0 : wr.cell? ⟨gb247, 0, none⟩ = some (.int .i64 a0_0) := (blk_cell BK247.out 0).trans rfl
                  have hcz16_1 : wr.cell? ⟨gb247, 1, none⟩ = some (.string a0_1) := (blk_cell BK247.out 1).trans rfl
                  have hcz16_2 : wr.cell? ⟨gb247, 2, none⟩ = some (.slice A0_2 l0_2.length c0_2) := (blk_cell BK247.out 2).trans rfl
                  have hcz16_3 : wr.cell? ⟨gb247, 3, none⟩ = some (.bool a0_3) := (blk_cell BK247.out 3).trans rfl
                  have hcz16_4 : wr.cell? ⟨gb247, 4, none⟩ = some (.bool a0_4) := (blk_cell BK247.out 4).trans rfl
                  have hcz16_5 : wr.cell? ⟨gb247, 5, none⟩ = some (.slice A0_5 l0_5.length c0_5) := (blk_cell BK247.out 5).trans rfl
                  have hcz16_6 : wr.cell? ⟨gb247, 6, none⟩ = some (.slice A0_6 l0_6.length c0_6) := (blk_cell BK247.out 6).trans rfl
                  have hfz16_0 := blk_frozen BK247.out 0
                  have hfz16_1 := blk_frozen BK247.out 1
                  have hfz16_2 := blk_frozen BK247.out 2
                  have hfz16_3 := blk_frozen BK247.out 3
                  have hfz16_4 := blk_frozen BK247.out 4
                  have hfz16_5 := blk_frozen BK247.out 5
                  have hfz16_6 := blk_frozen BK247.out 6
                  have p248 : 0 ≤ (x3_2 : Int) := of_decide_eq_true (by first | (with_reducible assumption) | assumption)
                  have q248 : x3_2 < (l0_2.length : Int) := of_decide_eq_true (by first | (with_reducible assumption) | assumption)
                  obtain ⟨ad248, A248_2, c248_2, A248_5, c248_5, A248_6, c248_6, e248, hx248_0, hx248_1, hx248_2, hx248_3, hx248_4, hx248_5, hx248_6, hl248_2, hi248_2, hl248_5, hi248_5, hl248_6, hi248_6⟩ := at_T26 HR0_2.out x3_2 p248 q248
                  cases e248
                  replace hx248_0 := (HB.out.cell (World.block_lt_of_cell? w _ hx248_0)).trans hx248_0
                  replace hx248_1 := (HB.out.cell (World.block_lt_of_cell? w _ hx248_1)).trans hx248_1
                  replace hx248_2 := (HB.out.cell (World.block_lt_of_cell? w _ hx248_2)).trans hx248_2
                  replace hx248_3 := (HB.out.cell (World.block_lt_of_cell? w _ hx248_3)).trans hx248_3
                  replace hx248_4 := (HB.out.cell (World.block_lt_of_cell? w _ hx248_4)).trans hx248_4
                  replace hx248_5 := (HB.out.cell (World.block_lt_of_cell? w _ hx248_5)).trans hx248_5
                  replace hx248_6 := (HB.out.cell (World.block_lt_of_cell? w _ hx248_6)).trans hx248_6
                  have HR248_2 := Aside0.mk hi248_2
                  have HC248_2 := Aside0.mk hl248_2
                  clear hi248_2 hl248_2
                  have HR248_5 := Aside0.mk hi248_5
                  have HC248_5 := Aside0.mk hl248_5
                  clear hi248_5 hl248_5
                  have HR248_6 := Aside0.mk hi248_6
                  have HC248_6 := Aside0.mk hl248_6
                  clear hi248_6 hl248_6
                  replace p248 := eq_true p248
                  replace q248 := eq_true q248
                  go_wp2_with (first | ((with_reducible refine gate_callee (f := 25) rfl ?_); refine goesL_ (some 30) rfl rfl Try.func25 (by kernel_rfl) rfl #[.agg #[.int .i64 ((rd_T26 l0_2 x3_2).f0), .string ((rd_T26 l0_2 x3_2).f1), .slice A248_2 ((rd_T26 l0_2 x3_2).f2).length c248_2, .bool ((rd_T26 l0_2 x3_2).f3), .bool ((rd_T26 l0_2 x3_2).f4), .slice A248_5 ((rd_T26 l0_2 x3_2).f5).length c248_5, .slice A248_6 ((rd_T26 l0_2 x3_2).f6).length c248_6]] rfl (by (try simp only [List.map_toArray, List.map_cons, List.map_nil]); first | done | rfl | (simp only [List.length_drop, List.length_take]; rfl)) ?_; (with_reducible refine (ih k2 (by have := HJ1.out; have := HK2.out; omega) ((rd_T26 l0_2 x3_2).f0) ((rd_T26 l0_2 x3_2).f1) _ _ ((rd_T26 l0_2 x3_2).f2) ((rd_T26 l0_2 x3_2).f3) ((rd_T26 l0_2 x3_2).f4) _ _ ((rd_T26 l0_2 x3_2).f5) _ _ ((rd_T26 l0_2 x3_2).f6) false _ ?side1 ?side2 ?side3 ?side4 ?side5 ?side6 A12.out).mono ?_); (case side1 => repeat (first | exact (Kd.C_below HR248_2.out HB.out) | (with_reducible refine Kd.C_alloc ?_ _) | (with_reducible refine Kd.C_drewN ?_ _) | (with_reducible refine Kd.C_drew ?_))); (case side2 => exact HC248_2.out); (case side3 => repeat (first | exact (Kd.C_below HR248_5.out HB.out) | (with_reducible refine Kd.C_alloc ?_ _) | (with_reducible refine Kd.C_drewN ?_ _) | (with_reducible refine Kd.C_drew ?_))); (case side4 => exact HC248_5.out); (case side5 => repeat (first | exact (Kd.C_below HR248_6.out HB.out) | (with_reducible refine Kd.C_alloc ?_ _) | (with_reducible refine Kd.C_drewN ?_ _) | (with_reducible refine Kd.C_drew ?_))); (case side6 => exact HC248_6.out); rintro e w17 ⟨rfl, hb⟩; refine ⟨_, rfl, ?_⟩; have n0_ := Aside0.mk (blk_below (g := gb247) (o := .cells #[.int .i64 a0_0, .string a0_1, .slice (some ad248) l0_2.length c0_2, .bool a0_3, .bool a0_4, .slice A0_5 l0_5.length c0_5, .slice A0_6 l0_6.length c0_6] 26 (0, 0)) (by (with_reducible repeat (first | refine blk_drewN ?_ _ | refine blk_drew ?_ | refine blk_alloc ?_ _)); exact BK247.out) hb); have n1_ := Aside0.mk (below_step (by repeat (first | (with_reducible first | exact HB.out | apply below_alloc | apply pw_below_drewN | apply below_drew1 | refine below_set ?_ GE247.out) | exact HB.out)) hb); clear BK247; clear HB; have BK247 := n0_; have HB := n1_; clear n0_ n1_; (try clear hb); (try clear hb2); (try clear hk); (try clear hi)))
                  go_roundg k2
                  case measure => have := HJ1.out; have := HK2.out; omega
                  case rel => exact ⟨(wrap64 (x3_2 + 1)), (by first | rfl | (simp; done) | (simp [*]; done)), H', ⟨by have := HJ1.out; have := HK2.out; omega⟩, ⟨by (with_reducible repeat (first | refine blk_drewN ?_ _ | refine blk_drew ?_ | refine blk_alloc ?_ _)); exact BK247.out⟩, ⟨by repeat (first | (with_reducible first | exact HB.out | apply below_alloc | apply pw_below_drewN | apply below_drew1 | refine below_set ?_ GE247.out) | exact HB.out)⟩⟩
              · rw [if_neg c11] at H
                exact absurd H (by simp)
            · rw [if_neg c10] at H
              have c10b0 : decide (x3_2 < (l0_2.length : Int)) = false := decide_eq_false c10
              clear c10
              obtain rfl := Option.some.inj H
              have hcz18_0 : wr.cell? ⟨gb247, 0, none⟩ = some (.int .i64 a0_0) := (blk_cell BK247.out 0).trans rfl
              have hcz18_1 : wr.cell? ⟨gb247, 1, none⟩ = some (.string a0_1) := (blk_cell BK247.out 1).trans rfl
              have hcz18_2 : wr.cell? ⟨gb247, 2, none⟩ = some (.slice A0_2 l0_2.length c0_2) := (blk_cell BK247.out 2).trans rfl
              have hcz18_3 : wr.cell? ⟨gb247, 3, none⟩ = some (.bool a0_3) := (blk_cell BK247.out 3).trans rfl
              have hcz18_4 : wr.cell? ⟨gb247, 4, none⟩ = some (.bool a0_4) := (blk_cell BK247.out 4).trans rfl
              have hcz18_5 : wr.cell? ⟨gb247, 5, none⟩ = some (.slice A0_5 l0_5.length c0_5) := (blk_cell BK247.out 5).trans rfl
              have hcz18_6 : wr.cell? ⟨gb247, 6, none⟩ = some (.slice A0_6 l0_6.length c0_6) := (blk_cell BK247.out 6).trans rfl
              have hfz18_0 := blk_frozen BK247.out 0
              have hfz18_1 := blk_frozen BK247.out 1
              have hfz18_2 := blk_frozen BK247.out 2
              have hfz18_3 := blk_frozen BK247.out 3
              have hfz18_4 := blk_frozen BK247.out 4
              have hfz18_5 := blk_frozen BK247.out 5
              have hfz18_6 := blk_frozen BK247.out 6
              go_wp2
              go_ret
              exact ⟨by first | rfl | (simp [errW_none, errW_some] <;> rfl) | (simp [*, errW_none, errW_some] <;> rfl), by repeat (first | (with_reducible first | exact HB.out | apply below_alloc | apply pw_below_drewN | apply below_drew1 | refine below_set ?_ GE247.out) | exact HB.out)⟩

end Go.Proofs.Ytjlnlonioknkhaa.PA

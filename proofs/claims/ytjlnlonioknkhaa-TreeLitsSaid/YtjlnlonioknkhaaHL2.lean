/- TreeLits: the walk. -/
import Derived.Test.YtjlnlonioknkhaaHL1
import Derived.Test.YtjlnlonioknkhaaPAx11
namespace Go.Proofs.Ytjlnlonioknkhaa.PA
open Go.RowKit Go.Proofs.YtjlnlonioknkhaaW.PrintWords Go.Proofs.YtjlnlonioknkhaaW.PrintLast Go.Proofs.YtjlnlonioknkhaaW.PrintMore
set_option linter.unusedVariables false
set_option linter.unusedSimpArgs false

theorem F3tab9 : rtab .any (opsOf Try.f3 9) = (true, [([], []), ([], []), ([0, 1], [0, 1]), ([2], [2]), ([], []), ([], []), ([4, 5], [4, 5]), ([6], [6]), ([7], [7]), ([8], [8]), ([3, 9], [3, 9]), ([], []), ([11, 10, 0, 1, 2, 3, 4, 5, 6, 7, 8, 9, 10, 11], [10, 11])]) := by kernel_rfl
theorem F3tab13 : rtab .any (opsOf Try.f3 13) = (true, [([], []), ([0], [0]), ([], []), ([2, 1], [2]), ([1, 3, 0, 1], [1]), ([3, 4, 0, 1, 2, 3, 4], [3])]) := by kernel_rfl
theorem F3tab19 : rtab .any (opsOf Try.f3 19) = (true, [([], []), ([], []), ([0, 1], [0, 1]), ([2], [2]), ([], []), ([], []), ([4, 5], [4, 5]), ([6], [6]), ([3, 7], [3, 7]), ([8], [8]), ([9], [9]), ([9], [9]), ([10, 11, 9], [9, 10, 11]), ([12, 9], [9, 12]), ([9], [9]), ([9], [9]), ([14, 15, 9], [9, 14, 15]), ([16, 9], [9, 16]), ([17, 9], [9, 17]), ([13, 18, 9], [9, 13, 18]), ([9, 19], [9, 19])]) := by kernel_rfl
set_option maxHeartbeats 2000000 in
theorem lits_1 (b : Bool) (l : List ByteArray) (A : Option Addr) (c : Nat) (w : World) (hl : Kd.C Kd.string w A l.length l) (hc : l.length ≤ c) (h6 : decide (12 < (l.length : Int)) = true) : Calls Try.prog 3 #[.slice A l.length c, .bool b] w fun e w' => e = .returned (.bool true) ∧ Below w.heap.size w w' := by
  have hu26 := Try.underlying26
  have HL := Aside0.mk hl
  have HC := Aside0.mk hc
  have HB := Aside0.mk (Below.refl w.heap.size w)
  clear hl hc
  go_enter Try.func3, Try.ntmps3
  go_wp2_with (first | ((with_reducible refine gate_dst (N := 14) rfl ?_); refine goesL_ (some 14) rfl rfl Try.func11 (by kernel_rfl) rfl #[] rfl (by (try simp only [List.map_toArray, List.map_cons, List.map_nil]); first | done | rfl) ?_; (refine (galleylaw10_told.calls true _ rfl).mono ?_); (rintro e w101 ⟨rfl, hb⟩; refine ⟨_, rfl, ?_⟩; have n0 := Aside0.mk (below_step HB.out hb); clear HB hb; have HB := n0; clear n0)))
  go_ret
  exact ⟨rfl, HB.out⟩
set_option maxHeartbeats 8000000 in
theorem lits_nest (l : List ByteArray) (A : Option Addr) (c : Nat) (w : World) (hl : Kd.C Kd.string w A l.length l) (hc : l.length ≤ c) (h6 : decide (12 < (l.length : Int)) = false) (hl12 : l.length ≤ 12) : Calls Try.prog 3 #[.slice A l.length c, .bool true] w fun e w' => e = .returned (.bool true) ∧ Below w.heap.size w w' := by
  have hu26 := Try.underlying26
  have HL := Aside0.mk hl
  have HC := Aside0.mk hc
  have HB := Aside0.mk (Below.refl w.heap.size w)
  clear hl hc
  have H12 := Aside0.mk hl12
  have hn0 : 0 ≤ (l.length : Int) := by omega
  have hn1 : (l.length : Int) ≤ 12 := by omega
  clear hl12
  go_enter Try.func3, Try.ntmps3
  go_upto_region 4 with (fail)
  have IV := Aside0.mk (show IvL w (w.alloc (.cells #[.int .i64 4, .string (⟨#[]⟩ : ByteArray), .slice none 0 0, .bool false, .bool false, .slice none 0 0, .slice none 0 0] 26 (0, 0))) w.heap.size 4 [] none 0 from ⟨below_alloc HB.out _, blk_new _ _, Kd.F_nil _ _ _, Nat.le_refl _, Nat.le_refl _⟩)
  clear HB
  generalize w.heap.size = gn at IV ⊢
  generalize w.alloc _ = w2 at IV ⊢
  go_wp2_with fail
  go_loopg [6] l.length (fun k' v6 wr => ∃ (j : Nat) (A2 : Option Addr) (c2 : Nat), v6 = .int .i64 ((j : Int) - 1) ∧ j ≤ l.length ∧ Aside0 (k' = j) ∧ Aside0 (IvL w wr gn (kdL true (l.drop j)) (LL true (l.drop j)) A2 c2) ∧ Aside0 (∀ i (h : i < l.length), j ≤ i → l[i].size ≤ 50))
  case atStart => exact ⟨l.length, none, 0, by rfl, Nat.le_refl _, ⟨rfl⟩, ⟨by rw [List.drop_length]; exact IV.out⟩, ⟨fun i h h1 => absurd h (by omega)⟩⟩
  case round =>
    clear IV
    obtain ⟨j, A2, c2, rfl, hj, HK, IV, HZ⟩ := hrel
    cases j with
    | succ m =>
      have hlt : m < l.length := hj
      obtain ⟨ad, e0, tx⟩ := text_at HL.out m hlt
      cases e0
      have TX : Aside0 (∀ w', Below w.heap.size w w' → w'.cell? (ad.add m) = some (.string l[m])) := ⟨fun w' hb => (hb.cell (World.block_lt_of_cell? w _ tx)).trans tx⟩
      have EY := Aside0.mk (drop_pred l m hlt)
      clear tx
      obtain ⟨y, hy⟩ : ∃ y, y = l[m] := ⟨_, rfl⟩
      have HY := Aside0.mk hy
      rw [← hy] at TX EY
      clear hy
      have em : (((m + 1 : Nat) : Int) - 1) = (m : Int) := by omega
      rw [em]
      clear em
      have hm0 : 0 ≤ (m : Int) := by omega
      have hm1 : (m : Int) ≤ 12 := by omega
      have q0 := TX.out _ IV.out.hb
      cases h50 : decide (50 < (y.size : Int))
      rotate_left
      · go_wp2_with (first | ((with_reducible refine gate_dst (N := 29) rfl ?_); refine goesL_ (some 29) rfl rfl Try.func11 (by kernel_rfl) rfl #[] rfl (by (try simp only [List.map_toArray, List.map_cons, List.map_nil]); first | done | rfl) ?_; (refine (galleylaw10_told.calls true _ rfl).mono ?_); (rintro e w301 ⟨rfl, hb⟩; refine ⟨_, rfl, ?_⟩; have n0 := Aside0.mk (IV.out.step hb); clear IV hb; have IV := n0; clear n0)))
        go_ret
        exact ⟨rfl, IV.out.hb⟩
      have CAT : Aside0 (¬ (9223372036854775807 < 1 + y.size)) := ⟨by have : ¬ (50 < (y.size : Int)) := of_decide_eq_false h50; omega⟩
      go_wp2_with fail
      clear q0
      have n0 := Aside0.mk (IV.out.step (below_drew1 (Below.refl _ _)))
      clear IV
      have IV := n0
      clear n0
      refine start_ (n := 13) (S := fun w' => w'.cell? (ad.add m) = some (.string y) ∧ True) (ds := [12]) #[false, false, false, false, false, false, false, false, false, false, false, false, false] (by kernel_rfl) rfl rfl (⟨TX.out _ IV.out.hb, trivial⟩) (fun hHeld => ?_)
      generalize World.drew _ = w500 at IV hHeld ⊢
      refine pure_ (i := 0) (N := some 30) (v := ?_) (a' := ?_) #[true, false, false, false, false, false, false, false, false, false, false, false, false] rfl rfl (any_of (md := .any) (ops := opsOf Try.f3 9) F3tab9 (by kernel_rfl)) (fun _ _ _ h => h) (Or.inl ⟨by rfl, ?_⟩) ?_ ?_
      rotate_left
      · intro w'
        go_simp
        with_reducible rfl
      rotate_left
      · simp only [Act.put, List.setIfInBounds_toArray, List.set_cons_zero, List.set_cons_succ, i64_w, i32_w]
        rfl
      refine pure_ (i := 1) (N := some 31) (v := ?_) (a' := ?_) #[true, true, false, false, false, false, false, false, false, false, false, false, false] rfl rfl (any_of (md := .any) (ops := opsOf Try.f3 9) F3tab9 (by kernel_rfl)) (fun _ _ _ h => h) (Or.inl ⟨by rfl, ?_⟩) ?_ ?_
      rotate_left
      · intro w'
        go_simp
        with_reducible rfl
      rotate_left
      · simp only [Act.put, List.setIfInBounds_toArray, List.set_cons_zero, List.set_cons_succ, i64_w, i32_w]
        rfl
      refine pure_ (i := 2) (N := some 32) (v := ?_) (a' := ?_) #[true, true, true, false, false, false, false, false, false, false, false, false, false] rfl rfl (any_of (md := .any) (ops := opsOf Try.f3 9) F3tab9 (by kernel_rfl)) (fun _ _ _ h => h) (Or.inl ⟨by rfl, ?_⟩) ?_ ?_
      rotate_left
      · intro w'
        go_simp
        with_reducible rfl
      rotate_left
      · simp only [Act.put, List.setIfInBounds_toArray, List.set_cons_zero, List.set_cons_succ, i64_w, i32_w]
        rfl
      refine take_ (i := 3) (N := some 33) (v := ?_) (a' := ?_) #[true, true, true, true, false, false, false, false, false, false, false, false, false] rfl rfl (take_of (md := .any) (ops := opsOf Try.f3 9) F3tab9 (by kernel_rfl)) (fun _ _ _ h => h) (Or.inl ⟨by rfl, ?_⟩) hHeld ?_ ?_
      rotate_left
      · rintro w' ⟨s0, s1⟩
        go_simp
        with_reducible rfl
      rotate_left
      · simp only [Act.put, List.setIfInBounds_toArray, List.set_cons_zero, List.set_cons_succ, i64_w, i32_w]
        rfl
      refine pure_ (i := 4) (N := some 34) (v := ?_) (a' := ?_) #[true, true, true, true, true, false, false, false, false, false, false, false, false] rfl rfl (any_of (md := .any) (ops := opsOf Try.f3 9) F3tab9 (by kernel_rfl)) (fun _ _ _ h => h) (Or.inl ⟨by rfl, ?_⟩) ?_ ?_
      rotate_left
      · intro w'
        go_simp
        with_reducible rfl
      rotate_left
      · simp only [Act.put, List.setIfInBounds_toArray, List.set_cons_zero, List.set_cons_succ, i64_w, i32_w]
        rfl
      refine pure_ (i := 5) (N := some 35) (v := ?_) (a' := ?_) #[true, true, true, true, true, true, false, false, false, false, false, false, false] rfl rfl (any_of (md := .any) (ops := opsOf Try.f3 9) F3tab9 (by kernel_rfl)) (fun _ _ _ h => h) (Or.inl ⟨by rfl, ?_⟩) ?_ ?_
      rotate_left
      · intro w'
        go_simp
        with_reducible rfl
      rotate_left
      · simp only [Act.put, List.setIfInBounds_toArray, List.set_cons_zero, List.set_cons_succ, i64_w, i32_w]
        rfl
      refine pure_ (i := 6) (N := some 36) (v := ?_) (a' := ?_) #[true, true, true, true, true, true, true, false, false, false, false, false, false] rfl rfl (any_of (md := .any) (ops := opsOf Try.f3 9) F3tab9 (by kernel_rfl)) (fun _ _ _ h => h) (Or.inl ⟨by rfl, ?_⟩) ?_ ?_
      rotate_left
      · intro w'
        go_simp
        with_reducible rfl
      rotate_left
      · simp only [Act.put, List.setIfInBounds_toArray, List.set_cons_zero, List.set_cons_succ, i64_w, i32_w]
        rfl
      refine take_ (i := 7) (N := some 37) (v := ?_) (a' := ?_) #[true, true, true, true, true, true, true, true, false, false, false, false, false] rfl rfl (take_of (md := .any) (ops := opsOf Try.f3 9) F3tab9 (by kernel_rfl)) (fun _ _ _ h => h) (Or.inl ⟨by rfl, ?_⟩) hHeld ?_ ?_
      rotate_left
      · rintro w' ⟨s0, s1⟩
        go_simp
        with_reducible rfl
      rotate_left
      · simp only [Act.put, List.setIfInBounds_toArray, List.set_cons_zero, List.set_cons_succ, i64_w, i32_w]
        rfl
      refine pure_ (i := 8) (N := some 38) (v := ?_) (a' := ?_) #[true, true, true, true, true, true, true, true, true, false, false, false, false] rfl rfl (any_of (md := .any) (ops := opsOf Try.f3 9) F3tab9 (by kernel_rfl)) (fun _ _ _ h => h) (Or.inl ⟨by rfl, ?_⟩) ?_ ?_
      rotate_left
      · intro w'
        go_simp
        rw [if_neg CAT.out]
      rotate_left
      · simp only [Act.put, List.setIfInBounds_toArray, List.set_cons_zero, List.set_cons_succ, i64_w, i32_w]
        rfl
      refine two_ (i := 9) (j := 11) (Ni := some 39) (Nj := some 7) #[true, true, true, true, true, true, true, true, true, true, false, false, false] #[true, true, true, true, true, true, true, true, true, false, false, true, false] rfl rfl rfl rfl (two_of (md := .any) (ops := opsOf Try.f3 9) F3tab9 (by kernel_rfl)) (by decide) (by decide) (fun K hK => ?_) (fun K hK => ?_)
      · refine lit_step (m := 1) (cs := #[.string (pcB y)]) (t := 9) (by rfl) ?hrun ?_
        case hrun => first | (go_simp; done) | (go_simp; rfl)
        intro gs hg w501 hbox hb
        have SN := Aside0.mk (show gs ≠ gn from by rw [hg]; exact Nat.ne_of_gt (blk_lt IV.out.bn)); have BS := Aside0.mk hbox; have n0 := Aside0.mk (IV.out.step hb); clear IV hb; have IV := n0; clear n0
        clear hbox hg
        refine hK.out _ _ (⟨TX.out _ IV.out.hb, trivial⟩) (fun hHeld => ?_)
        clear hK K
        refine norm_ (a' := ?_) ?_ ?_
        rotate_left
        · show Act.put _ (some 39) _ = _
          simp only [Act.put, List.setIfInBounds_toArray, List.set_cons_zero, List.set_cons_succ, i64_w, i32_w]
          rfl
        refine pure_ (i := 10) (N := some 40) (v := ?_) (a' := ?_) #[true, true, true, true, true, true, true, true, true, true, true, false, false] rfl rfl (any_of (md := .any) (ops := opsOf Try.f3 9) F3tab9 (by kernel_rfl)) (fun _ _ _ h => h) (Or.inl ⟨by rfl, ?_⟩) ?_ ?_
        rotate_left
        · intro w'
          go_simp
          with_reducible rfl
        rotate_left
        · simp only [Act.put, List.setIfInBounds_toArray, List.set_cons_zero, List.set_cons_succ, i64_w, i32_w]
          rfl
        refine one_ (i := 11) (N := some 7) #[true, true, true, true, true, true, true, true, true, true, true, true, false] rfl rfl (one_of (md := .any) (ops := opsOf Try.f3 9) F3tab9 (by kernel_rfl)) (by decide) (fun K hK => ?_)
        refine box_step (by rfl) (N := 7) rfl (cs := #[.int .i64 0, .string (⟨#[]⟩ : ByteArray), .slice none 0 0, .bool false, .bool false, .slice none 0 0, .slice none 0 0]) (t := 26) ?hrun ?_
        case hrun => first | (go_simp; done) | (go_simp; rfl)
        intro gx hg w502 hbox hb
        have NX := Aside0.mk (show gn ≠ gx from by rw [hg]; exact Nat.ne_of_lt (blk_lt IV.out.bn)); have GX := Aside0.mk (show w.heap.size ≤ gx from by rw [hg]; exact IV.out.hb.size); have FX := Aside0.mk (Kd.F_below (Kd.F_elderB IV.out.fl gx (Nat.le_of_eq hg.symm)) hb); have BX := Aside0.mk hbox; have SX := Aside0.mk (show gs ≠ gx from by rw [hg]; exact Nat.ne_of_lt (blk_lt BS.out)); have n0 := Aside0.mk (IV.out.step hb); have n3 := Aside0.mk (blk_below BS.out hb); clear IV BS hb; have IV := n0; have BS := n3; clear n0 n3
        clear hbox hg
        refine hK.out _ _ (⟨TX.out _ IV.out.hb, trivial⟩) (fun hHeld => ?_)
        clear hK K
        refine norm_ (a' := ?_) ?_ ?_
        rotate_left
        · show Act.put _ (some 7) _ = _
          simp only [Act.put, List.setIfInBounds_toArray, List.set_cons_zero, List.set_cons_succ, i64_w, i32_w]
          rfl
        refine last_ (i := 12) (N := none) #[true, true, true, true, true, true, true, true, true, true, true, true, true] rfl rfl (one_of (md := .any) (ops := opsOf Try.f3 9) F3tab9 (by kernel_rfl)) (by decide) (fun K hK => ?_)
        have hz0 : w502.cell? ⟨gx, 0, none⟩ = some (.int .i64 0) := (blk_cell BX.out 0).trans rfl
        have hz1 : w502.cell? ⟨gx, 1, none⟩ = some (.string (⟨#[]⟩ : ByteArray)) := (blk_cell BX.out 1).trans rfl
        have hz2 : w502.cell? ⟨gx, 2, none⟩ = some (.slice none 0 0) := (blk_cell BX.out 2).trans rfl
        have hz3 : w502.cell? ⟨gx, 3, none⟩ = some (.bool false) := (blk_cell BX.out 3).trans rfl
        have hz4 : w502.cell? ⟨gx, 4, none⟩ = some (.bool false) := (blk_cell BX.out 4).trans rfl
        have hz5 : w502.cell? ⟨gx, 5, none⟩ = some (.slice none 0 0) := (blk_cell BX.out 5).trans rfl
        have hz6 : w502.cell? ⟨gx, 6, none⟩ = some (.slice none 0 0) := (blk_cell BX.out 6).trans rfl
        have zf0 := blk_frozen BX.out 0
        have zf1 := blk_frozen BX.out 1
        have zf2 := blk_frozen BX.out 2
        have zf3 := blk_frozen BX.out 3
        have zf4 := blk_frozen BX.out 4
        have zf5 := blk_frozen BX.out 5
        have zf6 := blk_frozen BX.out 6
        refine skip_ (w1 := set7 w502 gx (.int .i64 1) (.string y) (.slice none 0 0) (.bool false) (.bool false) (.slice (some ⟨gs, 0, none⟩) 1 1) (.slice none 0 0)) rfl rfl ?hrun ?_
        case hrun => first | (go_simp; done) | (go_simp; rfl)
        refine hK.out _ _ (done_ (done_of (md := .any) (ops := opsOf Try.f3 9) F3tab9 (by kernel_rfl)) ?_)
        have I2 := Aside0.mk (IV.out.fill FX.out NX.out GX.out (v0 := .int .i64 1) (v1 := .string y) (v2 := .slice none 0 0) (v3 := .bool false) (v4 := .bool false) (v5 := .slice (some ⟨gs, 0, none⟩) 1 1) (v6 := .slice none 0 0))
        have B2 := Aside0.mk (set7_blk BX.out (v0 := .int .i64 1) (v1 := .string y) (v2 := .slice none 0 0) (v3 := .bool false) (v4 := .bool false) (v5 := .slice (some ⟨gs, 0, none⟩) 1 1) (v6 := .slice none 0 0))
        have S2 := Aside0.mk ((set7_other (v0 := .int .i64 1) (v1 := .string y) (v2 := .slice none 0 0) (v3 := .bool false) (v4 := .bool false) (v5 := .slice (some ⟨gs, 0, none⟩) 1 1) (v6 := .slice none 0 0) SX.out).trans BS.out)
        clear IV FX BX BS GX hz0 hz1 hz2 hz3 hz4 hz5 hz6 zf0 zf1 zf2 zf3 zf4 zf5 zf6 hK hHeld
        generalize set7 w502 gx (.int .i64 1) (.string y) (.slice none 0 0) (.bool false) (.bool false) (.slice (some ⟨gs, 0, none⟩) 1 1) (.slice none 0 0) = w600 at I2 B2 S2 ⊢
        have hx0 : w600.cell? ⟨gx, 0, none⟩ = some (.int .i64 1) := (blk_cell B2.out 0).trans rfl
        have hx1 : w600.cell? ⟨gx, 1, none⟩ = some (.string y) := (blk_cell B2.out 1).trans rfl
        have hx2 : w600.cell? ⟨gx, 2, none⟩ = some (.slice none 0 0) := (blk_cell B2.out 2).trans rfl
        have hx3 : w600.cell? ⟨gx, 3, none⟩ = some (.bool false) := (blk_cell B2.out 3).trans rfl
        have hx4 : w600.cell? ⟨gx, 4, none⟩ = some (.bool false) := (blk_cell B2.out 4).trans rfl
        have hx5 : w600.cell? ⟨gx, 5, none⟩ = some (.slice (some ⟨gs, 0, none⟩) 1 1) := (blk_cell B2.out 5).trans rfl
        have hx6 : w600.cell? ⟨gx, 6, none⟩ = some (.slice none 0 0) := (blk_cell B2.out 6).trans rfl
        have hn0 : w600.cell? ⟨gn, 0, none⟩ = some (.int .i64 (kdL true (l.drop (m + 1)))) := (blk_cell I2.out.bn 0).trans rfl
        have hn1 : w600.cell? ⟨gn, 1, none⟩ = some (.string (⟨#[]⟩ : ByteArray)) := (blk_cell I2.out.bn 1).trans rfl
        have hn2 : w600.cell? ⟨gn, 2, none⟩ = some (.slice A2 ((LL true (l.drop (m + 1)))).length c2) := (blk_cell I2.out.bn 2).trans rfl
        have hn3 : w600.cell? ⟨gn, 3, none⟩ = some (.bool false) := (blk_cell I2.out.bn 3).trans rfl
        have hn4 : w600.cell? ⟨gn, 4, none⟩ = some (.bool false) := (blk_cell I2.out.bn 4).trans rfl
        have hn5 : w600.cell? ⟨gn, 5, none⟩ = some (.slice none 0 0) := (blk_cell I2.out.bn 5).trans rfl
        have hn6 : w600.cell? ⟨gn, 6, none⟩ = some (.slice none 0 0) := (blk_cell I2.out.bn 6).trans rfl
        have nf0 := blk_frozen I2.out.bn 0
        have nf1 := blk_frozen I2.out.bn 1
        have nf2 := blk_frozen I2.out.bn 2
        have nf3 := blk_frozen I2.out.bn 3
        have nf4 := blk_frozen I2.out.bn 4
        have nf5 := blk_frozen I2.out.bn 5
        have nf6 := blk_frozen I2.out.bn 6
        go_wp2_with (first | ((with_reducible refine gate_dst (N := 44) rfl ?_); refine lit_evt ?hg (N := 44) ?hd (m := 2) (cs := #[.int .i64 1, .string y, .slice none 0 0, .bool false, .bool false, .slice (some ⟨gs, 0, none⟩) 1 1, .slice none 0 0, .int .i64 (kdL true (l.drop (m + 1))), .string (⟨#[]⟩ : ByteArray), .slice A2 ((LL true (l.drop (m + 1)))).length c2, .bool false, .bool false, .slice none 0 0, .slice none 0 0]) (t := 26) ?hr ?_; (case hd => rfl); (case hg => rfl); (case hr => first | (go_simp; done) | (go_simp; rfl)); intro gl hg w701 hbox hb; have GL := Aside0.mk (show gl ≠ gn from by rw [hg]; exact Nat.ne_of_gt (blk_lt I2.out.bn)); have BL := Aside0.mk hbox;  clear hbox hg; have IV := Aside0.mk (I2.out.step hb); have n2 := Aside0.mk (blk_below S2.out hb); clear I2 S2 B2 hb; have S2 := n2; clear n2; clear hx0 hn0 hx1 hn1 hx2 hn2 hx3 hn3 hx4 hn4 hx5 hn5 hx6 hn6 nf0 nf1 nf2 nf3 nf4 nf5 nf6; have hn0 : w701.cell? ⟨gn, 0, none⟩ = some (.int .i64 (kdL true (l.drop (m + 1)))) := (blk_cell IV.out.bn 0).trans rfl; have hn1 : w701.cell? ⟨gn, 1, none⟩ = some (.string (⟨#[]⟩ : ByteArray)) := (blk_cell IV.out.bn 1).trans rfl; have hn2 : w701.cell? ⟨gn, 2, none⟩ = some (.slice A2 ((LL true (l.drop (m + 1)))).length c2) := (blk_cell IV.out.bn 2).trans rfl; have hn3 : w701.cell? ⟨gn, 3, none⟩ = some (.bool false) := (blk_cell IV.out.bn 3).trans rfl; have hn4 : w701.cell? ⟨gn, 4, none⟩ = some (.bool false) := (blk_cell IV.out.bn 4).trans rfl; have hn5 : w701.cell? ⟨gn, 5, none⟩ = some (.slice none 0 0) := (blk_cell IV.out.bn 5).trans rfl; have hn6 : w701.cell? ⟨gn, 6, none⟩ = some (.slice none 0 0) := (blk_cell IV.out.bn 6).trans rfl; have nf0 := blk_frozen IV.out.bn 0; have nf1 := blk_frozen IV.out.bn 1; have nf2 := blk_frozen IV.out.bn 2; have nf3 := blk_frozen IV.out.bn 3; have nf4 := blk_frozen IV.out.bn 4; have nf5 := blk_frozen IV.out.bn 5; have nf6 := blk_frozen IV.out.bn 6))
        have I3 := Aside0.mk (IV.out.renew (kd' := 5) (L' := [xL y, mkN (kdL true (l.drop (m + 1))) (LL true (l.drop (m + 1)))]) (A' := some ⟨gl, 0, none⟩) (c' := 2) (F_two (cx := [.int .i64 1, .string y, .slice none 0 0, .bool false, .bool false, .slice (some ⟨gs, 0, none⟩) 1 1, .slice none 0 0]) (cy := [.int .i64 (kdL true (l.drop (m + 1))), .string (⟨#[]⟩ : ByteArray), .slice A2 ((LL true (l.drop (m + 1)))).length c2, .bool false, .bool false, .slice none 0 0, .slice none 0 0]) BL.out GL.out (FK_xL S2.out SN.out) (FK_mkN IV.out.fl IV.out.lc)) (Nat.le_refl _))
        have e5 : kdL true (l.drop m) = 5 := by rw [EY.out]; rfl
        have e6 : LL true (l.drop m) = [xL y, mkN (kdL true (l.drop (m + 1))) (LL true (l.drop (m + 1)))] := by rw [EY.out]; rfl
        go_roundg m
        case measure => have := HK.out; omega
        case rel => exact ⟨m, _, _, rfl, by omega, ⟨rfl⟩, ⟨by rw [e5, e6]; exact I3.out⟩, ⟨fun i h h1 => by
          rcases Nat.lt_or_ge m i with h2 | h2
          · exact HZ.out i h h2
          · obtain rfl : i = m := by omega
            rw [← HY.out]
            have : ¬ (50 < (y.size : Int)) := of_decide_eq_false h50
            omega⟩⟩
      · refine box_step (by rfl) (N := 7) rfl (cs := #[.int .i64 0, .string (⟨#[]⟩ : ByteArray), .slice none 0 0, .bool false, .bool false, .slice none 0 0, .slice none 0 0]) (t := 26) ?hrun ?_
        case hrun => first | (go_simp; done) | (go_simp; rfl)
        intro gx hg w501 hbox hb
        have NX := Aside0.mk (show gn ≠ gx from by rw [hg]; exact Nat.ne_of_lt (blk_lt IV.out.bn)); have GX := Aside0.mk (show w.heap.size ≤ gx from by rw [hg]; exact IV.out.hb.size); have FX := Aside0.mk (Kd.F_below (Kd.F_elderB IV.out.fl gx (Nat.le_of_eq hg.symm)) hb); have BX := Aside0.mk hbox; have n0 := Aside0.mk (IV.out.step hb); clear IV hb; have IV := n0; clear n0
        clear hbox hg
        refine hK.out _ _ (⟨TX.out _ IV.out.hb, trivial⟩) (fun hHeld => ?_)
        clear hK K
        refine norm_ (a' := ?_) ?_ ?_
        rotate_left
        · show Act.put _ (some 7) _ = _
          simp only [Act.put, List.setIfInBounds_toArray, List.set_cons_zero, List.set_cons_succ, i64_w, i32_w]
          rfl
        refine one_ (i := 9) (N := some 39) #[true, true, true, true, true, true, true, true, true, true, false, true, false] rfl rfl (one_of (md := .any) (ops := opsOf Try.f3 9) F3tab9 (by kernel_rfl)) (by decide) (fun K hK => ?_)
        refine lit_step (m := 1) (cs := #[.string (pcB y)]) (t := 9) (by rfl) ?hrun ?_
        case hrun => first | (go_simp; done) | (go_simp; rfl)
        intro gs hg w502 hbox hb
        have SN := Aside0.mk (show gs ≠ gn from by rw [hg]; exact Nat.ne_of_gt (blk_lt IV.out.bn)); have BS := Aside0.mk hbox; have SX := Aside0.mk (show gs ≠ gx from by rw [hg]; exact Nat.ne_of_gt (blk_lt BX.out)); have n0 := Aside0.mk (IV.out.step hb); have n1 := Aside0.mk (Kd.F_below FX.out hb); have n2 := Aside0.mk (blk_below BX.out hb); clear IV FX BX hb; have IV := n0; have FX := n1; have BX := n2; clear n0 n1 n2
        clear hbox hg
        refine hK.out _ _ (⟨TX.out _ IV.out.hb, trivial⟩) (fun hHeld => ?_)
        clear hK K
        refine norm_ (a' := ?_) ?_ ?_
        rotate_left
        · show Act.put _ (some 39) _ = _
          simp only [Act.put, List.setIfInBounds_toArray, List.set_cons_zero, List.set_cons_succ, i64_w, i32_w]
          rfl
        refine pure_ (i := 10) (N := some 40) (v := ?_) (a' := ?_) #[true, true, true, true, true, true, true, true, true, true, true, true, false] rfl rfl (any_of (md := .any) (ops := opsOf Try.f3 9) F3tab9 (by kernel_rfl)) (fun _ _ _ h => h) (Or.inl ⟨by rfl, ?_⟩) ?_ ?_
        rotate_left
        · intro w'
          go_simp
          with_reducible rfl
        rotate_left
        · simp only [Act.put, List.setIfInBounds_toArray, List.set_cons_zero, List.set_cons_succ, i64_w, i32_w]
          rfl
        refine last_ (i := 12) (N := none) #[true, true, true, true, true, true, true, true, true, true, true, true, true] rfl rfl (one_of (md := .any) (ops := opsOf Try.f3 9) F3tab9 (by kernel_rfl)) (by decide) (fun K hK => ?_)
        have hz0 : w502.cell? ⟨gx, 0, none⟩ = some (.int .i64 0) := (blk_cell BX.out 0).trans rfl
        have hz1 : w502.cell? ⟨gx, 1, none⟩ = some (.string (⟨#[]⟩ : ByteArray)) := (blk_cell BX.out 1).trans rfl
        have hz2 : w502.cell? ⟨gx, 2, none⟩ = some (.slice none 0 0) := (blk_cell BX.out 2).trans rfl
        have hz3 : w502.cell? ⟨gx, 3, none⟩ = some (.bool false) := (blk_cell BX.out 3).trans rfl
        have hz4 : w502.cell? ⟨gx, 4, none⟩ = some (.bool false) := (blk_cell BX.out 4).trans rfl
        have hz5 : w502.cell? ⟨gx, 5, none⟩ = some (.slice none 0 0) := (blk_cell BX.out 5).trans rfl
        have hz6 : w502.cell? ⟨gx, 6, none⟩ = some (.slice none 0 0) := (blk_cell BX.out 6).trans rfl
        have zf0 := blk_frozen BX.out 0
        have zf1 := blk_frozen BX.out 1
        have zf2 := blk_frozen BX.out 2
        have zf3 := blk_frozen BX.out 3
        have zf4 := blk_frozen BX.out 4
        have zf5 := blk_frozen BX.out 5
        have zf6 := blk_frozen BX.out 6
        refine skip_ (w1 := set7 w502 gx (.int .i64 1) (.string y) (.slice none 0 0) (.bool false) (.bool false) (.slice (some ⟨gs, 0, none⟩) 1 1) (.slice none 0 0)) rfl rfl ?hrun ?_
        case hrun => first | (go_simp; done) | (go_simp; rfl)
        refine hK.out _ _ (done_ (done_of (md := .any) (ops := opsOf Try.f3 9) F3tab9 (by kernel_rfl)) ?_)
        have I2 := Aside0.mk (IV.out.fill FX.out NX.out GX.out (v0 := .int .i64 1) (v1 := .string y) (v2 := .slice none 0 0) (v3 := .bool false) (v4 := .bool false) (v5 := .slice (some ⟨gs, 0, none⟩) 1 1) (v6 := .slice none 0 0))
        have B2 := Aside0.mk (set7_blk BX.out (v0 := .int .i64 1) (v1 := .string y) (v2 := .slice none 0 0) (v3 := .bool false) (v4 := .bool false) (v5 := .slice (some ⟨gs, 0, none⟩) 1 1) (v6 := .slice none 0 0))
        have S2 := Aside0.mk ((set7_other (v0 := .int .i64 1) (v1 := .string y) (v2 := .slice none 0 0) (v3 := .bool false) (v4 := .bool false) (v5 := .slice (some ⟨gs, 0, none⟩) 1 1) (v6 := .slice none 0 0) SX.out).trans BS.out)
        clear IV FX BX BS GX hz0 hz1 hz2 hz3 hz4 hz5 hz6 zf0 zf1 zf2 zf3 zf4 zf5 zf6 hK hHeld
        generalize set7 w502 gx (.int .i64 1) (.string y) (.slice none 0 0) (.bool false) (.bool false) (.slice (some ⟨gs, 0, none⟩) 1 1) (.slice none 0 0) = w600 at I2 B2 S2 ⊢
        have hx0 : w600.cell? ⟨gx, 0, none⟩ = some (.int .i64 1) := (blk_cell B2.out 0).trans rfl
        have hx1 : w600.cell? ⟨gx, 1, none⟩ = some (.string y) := (blk_cell B2.out 1).trans rfl
        have hx2 : w600.cell? ⟨gx, 2, none⟩ = some (.slice none 0 0) := (blk_cell B2.out 2).trans rfl
        have hx3 : w600.cell? ⟨gx, 3, none⟩ = some (.bool false) := (blk_cell B2.out 3).trans rfl
        have hx4 : w600.cell? ⟨gx, 4, none⟩ = some (.bool false) := (blk_cell B2.out 4).trans rfl
        have hx5 : w600.cell? ⟨gx, 5, none⟩ = some (.slice (some ⟨gs, 0, none⟩) 1 1) := (blk_cell B2.out 5).trans rfl
        have hx6 : w600.cell? ⟨gx, 6, none⟩ = some (.slice none 0 0) := (blk_cell B2.out 6).trans rfl
        have hn0 : w600.cell? ⟨gn, 0, none⟩ = some (.int .i64 (kdL true (l.drop (m + 1)))) := (blk_cell I2.out.bn 0).trans rfl
        have hn1 : w600.cell? ⟨gn, 1, none⟩ = some (.string (⟨#[]⟩ : ByteArray)) := (blk_cell I2.out.bn 1).trans rfl
        have hn2 : w600.cell? ⟨gn, 2, none⟩ = some (.slice A2 ((LL true (l.drop (m + 1)))).length c2) := (blk_cell I2.out.bn 2).trans rfl
        have hn3 : w600.cell? ⟨gn, 3, none⟩ = some (.bool false) := (blk_cell I2.out.bn 3).trans rfl
        have hn4 : w600.cell? ⟨gn, 4, none⟩ = some (.bool false) := (blk_cell I2.out.bn 4).trans rfl
        have hn5 : w600.cell? ⟨gn, 5, none⟩ = some (.slice none 0 0) := (blk_cell I2.out.bn 5).trans rfl
        have hn6 : w600.cell? ⟨gn, 6, none⟩ = some (.slice none 0 0) := (blk_cell I2.out.bn 6).trans rfl
        have nf0 := blk_frozen I2.out.bn 0
        have nf1 := blk_frozen I2.out.bn 1
        have nf2 := blk_frozen I2.out.bn 2
        have nf3 := blk_frozen I2.out.bn 3
        have nf4 := blk_frozen I2.out.bn 4
        have nf5 := blk_frozen I2.out.bn 5
        have nf6 := blk_frozen I2.out.bn 6
        go_wp2_with (first | ((with_reducible refine gate_dst (N := 44) rfl ?_); refine lit_evt ?hg (N := 44) ?hd (m := 2) (cs := #[.int .i64 1, .string y, .slice none 0 0, .bool false, .bool false, .slice (some ⟨gs, 0, none⟩) 1 1, .slice none 0 0, .int .i64 (kdL true (l.drop (m + 1))), .string (⟨#[]⟩ : ByteArray), .slice A2 ((LL true (l.drop (m + 1)))).length c2, .bool false, .bool false, .slice none 0 0, .slice none 0 0]) (t := 26) ?hr ?_; (case hd => rfl); (case hg => rfl); (case hr => first | (go_simp; done) | (go_simp; rfl)); intro gl hg w701 hbox hb; have GL := Aside0.mk (show gl ≠ gn from by rw [hg]; exact Nat.ne_of_gt (blk_lt I2.out.bn)); have BL := Aside0.mk hbox;  clear hbox hg; have IV := Aside0.mk (I2.out.step hb); have n2 := Aside0.mk (blk_below S2.out hb); clear I2 S2 B2 hb; have S2 := n2; clear n2; clear hx0 hn0 hx1 hn1 hx2 hn2 hx3 hn3 hx4 hn4 hx5 hn5 hx6 hn6 nf0 nf1 nf2 nf3 nf4 nf5 nf6; have hn0 : w701.cell? ⟨gn, 0, none⟩ = some (.int .i64 (kdL true (l.drop (m + 1)))) := (blk_cell IV.out.bn 0).trans rfl; have hn1 : w701.cell? ⟨gn, 1, none⟩ = some (.string (⟨#[]⟩ : ByteArray)) := (blk_cell IV.out.bn 1).trans rfl; have hn2 : w701.cell? ⟨gn, 2, none⟩ = some (.slice A2 ((LL true (l.drop (m + 1)))).length c2) := (blk_cell IV.out.bn 2).trans rfl; have hn3 : w701.cell? ⟨gn, 3, none⟩ = some (.bool false) := (blk_cell IV.out.bn 3).trans rfl; have hn4 : w701.cell? ⟨gn, 4, none⟩ = some (.bool false) := (blk_cell IV.out.bn 4).trans rfl; have hn5 : w701.cell? ⟨gn, 5, none⟩ = some (.slice none 0 0) := (blk_cell IV.out.bn 5).trans rfl; have hn6 : w701.cell? ⟨gn, 6, none⟩ = some (.slice none 0 0) := (blk_cell IV.out.bn 6).trans rfl; have nf0 := blk_frozen IV.out.bn 0; have nf1 := blk_frozen IV.out.bn 1; have nf2 := blk_frozen IV.out.bn 2; have nf3 := blk_frozen IV.out.bn 3; have nf4 := blk_frozen IV.out.bn 4; have nf5 := blk_frozen IV.out.bn 5; have nf6 := blk_frozen IV.out.bn 6))
        have I3 := Aside0.mk (IV.out.renew (kd' := 5) (L' := [xL y, mkN (kdL true (l.drop (m + 1))) (LL true (l.drop (m + 1)))]) (A' := some ⟨gl, 0, none⟩) (c' := 2) (F_two (cx := [.int .i64 1, .string y, .slice none 0 0, .bool false, .bool false, .slice (some ⟨gs, 0, none⟩) 1 1, .slice none 0 0]) (cy := [.int .i64 (kdL true (l.drop (m + 1))), .string (⟨#[]⟩ : ByteArray), .slice A2 ((LL true (l.drop (m + 1)))).length c2, .bool false, .bool false, .slice none 0 0, .slice none 0 0]) BL.out GL.out (FK_xL S2.out SN.out) (FK_mkN IV.out.fl IV.out.lc)) (Nat.le_refl _))
        have e5 : kdL true (l.drop m) = 5 := by rw [EY.out]; rfl
        have e6 : LL true (l.drop m) = [xL y, mkN (kdL true (l.drop (m + 1))) (LL true (l.drop (m + 1)))] := by rw [EY.out]; rfl
        go_roundg m
        case measure => have := HK.out; omega
        case rel => exact ⟨m, _, _, rfl, by omega, ⟨rfl⟩, ⟨by rw [e5, e6]; exact I3.out⟩, ⟨fun i h h1 => by
          rcases Nat.lt_or_ge m i with h2 | h2
          · exact HZ.out i h h2
          · obtain rfl : i = m := by omega
            rw [← HY.out]
            have : ¬ (50 < (y.size : Int)) := of_decide_eq_false h50
            omega⟩⟩
    | zero =>
      rw [List.drop_zero] at IV
      have em : (((0 : Nat) : Int) - 1) = -1 := rfl
      rw [em]
      clear em HK
      go_wp2_with fail
      have n0 := Aside0.mk (IV.out.step (below_drew1 (Below.refl _ _)))
      clear IV
      have IV := n0
      clear n0
      refine start_ (n := 6) (S := SL gn (kdL true l) (LL true l) A2 c2) (ds := []) #[false, false, false, false, false, false] (by kernel_rfl) rfl rfl (IV.out.S) (fun hHeld => ?_)
      generalize World.drew _ = w800 at IV hHeld ⊢
      refine take_ (i := 0) (N := some 52) (v := ?_) (a' := ?_) #[true, false, false, false, false, false] rfl rfl (take_of (md := .any) (ops := opsOf Try.f3 13) F3tab13 (by kernel_rfl)) (fun _ _ _ h => h) (Or.inl ⟨by rfl, ?_⟩) hHeld ?_ ?_
      rotate_left
      · rintro w' ⟨s0, s1, s2, s3, s4, s5, s6⟩
        go_simp
        with_reducible rfl
      rotate_left
      · simp only [Act.put, List.setIfInBounds_toArray, List.set_cons_zero, List.set_cons_succ, i64_w, i32_w]
        rfl
      refine take_ (i := 2) (N := some 54) (v := ?_) (a' := ?_) #[true, false, true, false, false, false] rfl rfl (take_of (md := .any) (ops := opsOf Try.f3 13) F3tab13 (by kernel_rfl)) (fun _ _ _ h => h) (Or.inl ⟨by rfl, ?_⟩) hHeld ?_ ?_
      rotate_left
      · rintro w' ⟨s0, s1, s2, s3, s4, s5, s6⟩
        go_simp
        with_reducible rfl
      rotate_left
      · simp only [Act.put, List.setIfInBounds_toArray, List.set_cons_zero, List.set_cons_succ, i64_w, i32_w]
        rfl
      refine one_ (i := 1) (N := some 53) #[true, true, true, false, false, false] rfl rfl (one_of (md := .any) (ops := opsOf Try.f3 13) F3tab13 (by kernel_rfl)) (by decide) (fun K hK => ?_)
      refine goes_ Try.func12 (by kernel_rfl) rfl #[.agg #[.int .i64 (kdL true l), .string (⟨#[]⟩ : ByteArray), .slice A2 (LL true l).length c2, .bool false, .bool false, .slice none 0 0, .slice none 0 0]] (by rfl) rfl rfl (by (try simp only [List.map_toArray, List.map_cons, List.map_nil]); first | done | rfl) ?_
      refine (lits10c_of IV.out.nd (lits_nT true l) (by have := H12.out; omega)).mono ?_
      rintro e w801 ⟨A8, c8, rfl, g8, hb⟩
      refine ⟨_, rfl, ?_⟩
      have G8 := Aside0.mk g8; clear g8; have n0 := Aside0.mk (IV.out.step hb); clear IV hb; have IV := n0; clear n0
      refine hK.out _ _ (IV.out.S) (fun hHeld => ?_)
      clear hK K
      refine norm_ (a' := ?_) ?_ ?_
      rotate_left
      · show Act.put _ (some 53) _ = _
        simp only [Act.put, List.setIfInBounds_toArray, List.set_cons_zero, List.set_cons_succ, i64_w, i32_w]
        rfl
      refine one_ (i := 3) (N := some 55) #[true, true, true, true, false, false] rfl rfl (one_of (md := .any) (ops := opsOf Try.f3 13) F3tab13 (by kernel_rfl)) (by decide) (fun K hK => ?_)
      refine goes_ Try.func13 (by kernel_rfl) rfl #[.agg #[.int .i64 (kdL true l), .string (⟨#[]⟩ : ByteArray), .slice A2 (LL true l).length c2, .bool false, .bool false, .slice none 0 0, .slice none 0 0]] (by rfl) rfl rfl (by (try simp only [List.map_toArray, List.map_cons, List.map_nil]); first | done | rfl) ?_
      refine (nts10c_of IV.out.nd (fin_nT true l H12.out) (nts_nT true l) (by have := H12.out; omega)).mono ?_
      rintro e w802 ⟨A9, c9, rfl, g9, hb⟩
      refine ⟨_, rfl, ?_⟩
      have G9 := Aside0.mk g9; have m8 := Aside0.mk (Kd.C_below G8.out hb); clear g9 G8; have G8 := m8; clear m8; have n0 := Aside0.mk (IV.out.step hb); clear IV hb; have IV := n0; clear n0
      refine hK.out _ _ (IV.out.S) (fun hHeld => ?_)
      clear hK K
      refine norm_ (a' := ?_) ?_ ?_
      rotate_left
      · show Act.put _ (some 55) _ = _
        simp only [Act.put, List.setIfInBounds_toArray, List.set_cons_zero, List.set_cons_succ, i64_w, i32_w]
        rfl
      refine pure_ (i := 4) (N := some 8) (v := ?_) (a' := ?_) #[true, true, true, true, true, false] rfl rfl (any_of (md := .any) (ops := opsOf Try.f3 13) F3tab13 (by kernel_rfl)) (fun _ _ _ h => h) (Or.inl ⟨by rfl, ?_⟩) ?_ ?_
      rotate_left
      · intro w'
        go_simp
        with_reducible rfl
      rotate_left
      · simp only [Act.put, List.setIfInBounds_toArray, List.set_cons_zero, List.set_cons_succ, i64_w, i32_w]
        rfl
      refine pure_ (i := 5) (N := some 9) (v := ?_) (a' := ?_) #[true, true, true, true, true, true] rfl rfl (any_of (md := .any) (ops := opsOf Try.f3 13) F3tab13 (by kernel_rfl)) (fun _ _ _ h => h) (Or.inl ⟨by rfl, ?_⟩) ?_ ?_
      rotate_left
      · intro w'
        go_simp
        with_reducible rfl
      rotate_left
      · simp only [Act.put, List.setIfInBounds_toArray, List.set_cons_zero, List.set_cons_succ, i64_w, i32_w]
        rfl
      refine done_ (done_of (md := .any) (ops := opsOf Try.f3 13) F3tab13 (by kernel_rfl)) ?_
      clear hHeld
      go_wp2_with fail
      go_loopg [10] l.length (fun k' v10 wr => ∃ i : Nat, v10 = .int .i64 i ∧ i ≤ l.length ∧ Aside0 (k' + i = l.length) ∧ Aside0 (IvL w wr gn (kdL true l) (LL true l) A2 c2) ∧ Aside0 (Kd.C Kd.string wr A8 l.length l) ∧ Aside0 (Kd.C Kd.string wr A9 (l.map pcB).length (l.map pcB)))
      case atStart => exact ⟨0, rfl, Nat.zero_le _, ⟨rfl⟩, IV, G8, G9⟩
      case round =>
        clear IV G8 G9
        obtain ⟨i, rfl, hi, HK, IV, G8, G9⟩ := hrel
        by_cases hlt : i < l.length
        · obtain ⟨ad, e0, tx⟩ := text_at HL.out i hlt
          obtain ⟨ad8, e8, t8⟩ := text_at G8.out i hlt
          obtain ⟨ad9, e9, t9⟩ := text_at G9.out i (by rw [List.length_map]; exact hlt)
          subst e8 e9
          cases e0
          have q1 := (IV.out.hb.cell (World.block_lt_of_cell? w _ tx)).trans tx
          rw [List.getElem_map] at t9
          have CAT : Aside0 (¬ (9223372036854775807 < 1 + l[i].size)) := ⟨by have := HZ.out i hlt (Nat.zero_le _); omega⟩
          clear tx
          obtain ⟨y, hy⟩ : ∃ y, y = l[i] := ⟨_, rfl⟩
          rw [← hy] at q1 t8 t9 CAT
          clear hy
          have hi0 : 0 ≤ (i : Int) := by omega
          have hi1 : (i : Int) ≤ 12 := by have := H12.out; omega
          have HS9 := Aside0.mk (And.intro q1 (And.intro t8 t9))
          clear q1 t8 t9
          go_wp2_with fail
          have n0 := Aside0.mk (IV.out.step (below_drew1 (Below.refl _ _)))
          have n1 := Aside0.mk (Kd.C_below G8.out (below_drew1 (Below.refl _ _)))
          have n2 := Aside0.mk (Kd.C_below G9.out (below_drew1 (Below.refl _ _)))
          clear IV G8 G9
          have IV := n0
          have G8 := n1
          have G9 := n2
          clear n0 n1 n2
          refine start_ (n := 21) (S := fun w' => w'.cell? (ad.add i) = some (.string y) ∧ w'.cell? (ad8.add i) = some (.string y) ∧ w'.cell? (ad9.add i) = some (.string ((⟨#[37]⟩ : ByteArray) ++ y))) (ds := []) #[false, false, false, false, false, false, false, false, false, false, false, false, false, false, false, false, false, false, false, false, false] (by kernel_rfl) rfl rfl (HS9.out) (fun hHeld => ?_)
          clear HS9
          generalize World.drew _ = w900 at IV G8 G9 hHeld ⊢
          refine pure_ (i := 0) (N := some 74) (v := ?_) (a' := ?_) #[true, false, false, false, false, false, false, false, false, false, false, false, false, false, false, false, false, false, false, false, false] rfl rfl (any_of (md := .any) (ops := opsOf Try.f3 19) F3tab19 (by kernel_rfl)) (fun _ _ _ h => h) (Or.inl ⟨by rfl, ?_⟩) ?_ ?_
          rotate_left
          · intro w'
            go_simp
            with_reducible rfl
          rotate_left
          · simp only [Act.put, List.setIfInBounds_toArray, List.set_cons_zero, List.set_cons_succ, i64_w, i32_w]
            rfl
          refine pure_ (i := 1) (N := some 75) (v := ?_) (a' := ?_) #[true, true, false, false, false, false, false, false, false, false, false, false, false, false, false, false, false, false, false, false, false] rfl rfl (any_of (md := .any) (ops := opsOf Try.f3 19) F3tab19 (by kernel_rfl)) (fun _ _ _ h => h) (Or.inl ⟨by rfl, ?_⟩) ?_ ?_
          rotate_left
          · intro w'
            go_simp
            with_reducible rfl
          rotate_left
          · simp only [Act.put, List.setIfInBounds_toArray, List.set_cons_zero, List.set_cons_succ, i64_w, i32_w]
            rfl
          refine pure_ (i := 2) (N := some 76) (v := ?_) (a' := ?_) #[true, true, true, false, false, false, false, false, false, false, false, false, false, false, false, false, false, false, false, false, false] rfl rfl (any_of (md := .any) (ops := opsOf Try.f3 19) F3tab19 (by kernel_rfl)) (fun _ _ _ h => h) (Or.inl ⟨by rfl, ?_⟩) ?_ ?_
          rotate_left
          · intro w'
            go_simp
            with_reducible rfl
          rotate_left
          · simp only [Act.put, List.setIfInBounds_toArray, List.set_cons_zero, List.set_cons_succ, i64_w, i32_w]
            rfl
          refine take_ (i := 3) (N := some 77) (v := ?_) (a' := ?_) #[true, true, true, true, false, false, false, false, false, false, false, false, false, false, false, false, false, false, false, false, false] rfl rfl (take_of (md := .any) (ops := opsOf Try.f3 19) F3tab19 (by kernel_rfl)) (fun _ _ _ h => h) (Or.inl ⟨by rfl, ?_⟩) hHeld ?_ ?_
          rotate_left
          · rintro w' ⟨s0, s1, s2⟩
            go_simp
            with_reducible rfl
          rotate_left
          · simp only [Act.put, List.setIfInBounds_toArray, List.set_cons_zero, List.set_cons_succ, i64_w, i32_w]
            rfl
          refine pure_ (i := 4) (N := some 78) (v := ?_) (a' := ?_) #[true, true, true, true, true, false, false, false, false, false, false, false, false, false, false, false, false, false, false, false, false] rfl rfl (any_of (md := .any) (ops := opsOf Try.f3 19) F3tab19 (by kernel_rfl)) (fun _ _ _ h => h) (Or.inl ⟨by rfl, ?_⟩) ?_ ?_
          rotate_left
          · intro w'
            go_simp
            with_reducible rfl
          rotate_left
          · simp only [Act.put, List.setIfInBounds_toArray, List.set_cons_zero, List.set_cons_succ, i64_w, i32_w]
            rfl
          refine pure_ (i := 5) (N := some 79) (v := ?_) (a' := ?_) #[true, true, true, true, true, true, false, false, false, false, false, false, false, false, false, false, false, false, false, false, false] rfl rfl (any_of (md := .any) (ops := opsOf Try.f3 19) F3tab19 (by kernel_rfl)) (fun _ _ _ h => h) (Or.inl ⟨by rfl, ?_⟩) ?_ ?_
          rotate_left
          · intro w'
            go_simp
            with_reducible rfl
          rotate_left
          · simp only [Act.put, List.setIfInBounds_toArray, List.set_cons_zero, List.set_cons_succ, i64_w, i32_w]
            rfl
          refine pure_ (i := 6) (N := some 80) (v := ?_) (a' := ?_) #[true, true, true, true, true, true, true, false, false, false, false, false, false, false, false, false, false, false, false, false, false] rfl rfl (any_of (md := .any) (ops := opsOf Try.f3 19) F3tab19 (by kernel_rfl)) (fun _ _ _ h => h) (Or.inl ⟨by rfl, ?_⟩) ?_ ?_
          rotate_left
          · intro w'
            go_simp
            with_reducible rfl
          rotate_left
          · simp only [Act.put, List.setIfInBounds_toArray, List.set_cons_zero, List.set_cons_succ, i64_w, i32_w]
            rfl
          refine take_ (i := 7) (N := some 81) (v := ?_) (a' := ?_) #[true, true, true, true, true, true, true, true, false, false, false, false, false, false, false, false, false, false, false, false, false] rfl rfl (take_of (md := .any) (ops := opsOf Try.f3 19) F3tab19 (by kernel_rfl)) (fun _ _ _ h => h) (Or.inl ⟨by rfl, ?_⟩) hHeld ?_ ?_
          rotate_left
          · rintro w' ⟨s0, s1, s2⟩
            go_simp
            with_reducible rfl
          rotate_left
          · simp only [Act.put, List.setIfInBounds_toArray, List.set_cons_zero, List.set_cons_succ, i64_w, i32_w]
            rfl
          refine pure_ (i := 8) (N := some 82) (v := ?_) (a' := ?_) #[true, true, true, true, true, true, true, true, true, false, false, false, false, false, false, false, false, false, false, false, false] rfl rfl (any_of (md := .any) (ops := opsOf Try.f3 19) F3tab19 (by kernel_rfl)) (fun _ _ _ h => h) (Or.inl ⟨by rfl, ?_⟩) ?_ ?_
          rotate_left
          · intro w'
            go_simp
            with_reducible rfl
          rotate_left
          · simp only [Act.put, List.setIfInBounds_toArray, List.set_cons_zero, List.set_cons_succ, i64_w, i32_w]
            rfl
          refine pure_ (i := 9) (N := some 83) (v := ?_) (a' := ?_) #[true, true, true, true, true, true, true, true, true, true, false, false, false, false, false, false, false, false, false, false, false] rfl rfl (any_of (md := .any) (ops := opsOf Try.f3 19) F3tab19 (by kernel_rfl)) (fun _ _ _ h => h) (Or.inl ⟨by rfl, ?_⟩) ?_ ?_
          rotate_left
          · intro w'
            go_simp
            with_reducible rfl
          rotate_left
          · simp only [Act.put, List.setIfInBounds_toArray, List.set_cons_zero, List.set_cons_succ, i64_w, i32_w]
            rfl
          refine pure_ (i := 10) (N := some 84) (v := ?_) (a' := ?_) #[true, true, true, true, true, true, true, true, true, true, true, false, false, false, false, false, false, false, false, false, false] rfl rfl (any_of (md := .any) (ops := opsOf Try.f3 19) F3tab19 (by kernel_rfl)) (fun _ _ _ h => h) (Or.inl ⟨by rfl, ?_⟩) ?_ ?_
          rotate_left
          · intro w'
            go_simp
            with_reducible rfl
          rotate_left
          · simp only [Act.put, List.setIfInBounds_toArray, List.set_cons_zero, List.set_cons_succ, i64_w, i32_w]
            rfl
          refine pure_ (i := 11) (N := some 85) (v := ?_) (a' := ?_) #[true, true, true, true, true, true, true, true, true, true, true, true, false, false, false, false, false, false, false, false, false] rfl rfl (any_of (md := .any) (ops := opsOf Try.f3 19) F3tab19 (by kernel_rfl)) (fun _ _ _ h => h) (Or.inl ⟨by rfl, ?_⟩) ?_ ?_
          rotate_left
          · intro w'
            go_simp
            with_reducible rfl
          rotate_left
          · simp only [Act.put, List.setIfInBounds_toArray, List.set_cons_zero, List.set_cons_succ, i64_w, i32_w]
            rfl
          refine pure_ (i := 12) (N := some 86) (v := ?_) (a' := ?_) #[true, true, true, true, true, true, true, true, true, true, true, true, true, false, false, false, false, false, false, false, false] rfl rfl (any_of (md := .any) (ops := opsOf Try.f3 19) F3tab19 (by kernel_rfl)) (fun _ _ _ h => h) (Or.inl ⟨by rfl, ?_⟩) ?_ ?_
          rotate_left
          · intro w'
            go_simp
            with_reducible rfl
          rotate_left
          · simp only [Act.put, List.setIfInBounds_toArray, List.set_cons_zero, List.set_cons_succ, i64_w, i32_w]
            rfl
          refine take_ (i := 13) (N := some 87) (v := ?_) (a' := ?_) #[true, true, true, true, true, true, true, true, true, true, true, true, true, true, false, false, false, false, false, false, false] rfl rfl (take_of (md := .any) (ops := opsOf Try.f3 19) F3tab19 (by kernel_rfl)) (fun _ _ _ h => h) (Or.inl ⟨by rfl, ?_⟩) hHeld ?_ ?_
          rotate_left
          · rintro w' ⟨s0, s1, s2⟩
            go_simp
            with_reducible rfl
          rotate_left
          · simp only [Act.put, List.setIfInBounds_toArray, List.set_cons_zero, List.set_cons_succ, i64_w, i32_w]
            rfl
          refine pure_ (i := 14) (N := some 88) (v := ?_) (a' := ?_) #[true, true, true, true, true, true, true, true, true, true, true, true, true, true, true, false, false, false, false, false, false] rfl rfl (any_of (md := .any) (ops := opsOf Try.f3 19) F3tab19 (by kernel_rfl)) (fun _ _ _ h => h) (Or.inl ⟨by rfl, ?_⟩) ?_ ?_
          rotate_left
          · intro w'
            go_simp
            with_reducible rfl
          rotate_left
          · simp only [Act.put, List.setIfInBounds_toArray, List.set_cons_zero, List.set_cons_succ, i64_w, i32_w]
            rfl
          refine pure_ (i := 15) (N := some 89) (v := ?_) (a' := ?_) #[true, true, true, true, true, true, true, true, true, true, true, true, true, true, true, true, false, false, false, false, false] rfl rfl (any_of (md := .any) (ops := opsOf Try.f3 19) F3tab19 (by kernel_rfl)) (fun _ _ _ h => h) (Or.inl ⟨by rfl, ?_⟩) ?_ ?_
          rotate_left
          · intro w'
            go_simp
            with_reducible rfl
          rotate_left
          · simp only [Act.put, List.setIfInBounds_toArray, List.set_cons_zero, List.set_cons_succ, i64_w, i32_w]
            rfl
          refine pure_ (i := 16) (N := some 90) (v := ?_) (a' := ?_) #[true, true, true, true, true, true, true, true, true, true, true, true, true, true, true, true, true, false, false, false, false] rfl rfl (any_of (md := .any) (ops := opsOf Try.f3 19) F3tab19 (by kernel_rfl)) (fun _ _ _ h => h) (Or.inl ⟨by rfl, ?_⟩) ?_ ?_
          rotate_left
          · intro w'
            go_simp
            with_reducible rfl
          rotate_left
          · simp only [Act.put, List.setIfInBounds_toArray, List.set_cons_zero, List.set_cons_succ, i64_w, i32_w]
            rfl
          refine take_ (i := 17) (N := some 91) (v := ?_) (a' := ?_) #[true, true, true, true, true, true, true, true, true, true, true, true, true, true, true, true, true, true, false, false, false] rfl rfl (take_of (md := .any) (ops := opsOf Try.f3 19) F3tab19 (by kernel_rfl)) (fun _ _ _ h => h) (Or.inl ⟨by rfl, ?_⟩) hHeld ?_ ?_
          rotate_left
          · rintro w' ⟨s0, s1, s2⟩
            go_simp
            with_reducible rfl
          rotate_left
          · simp only [Act.put, List.setIfInBounds_toArray, List.set_cons_zero, List.set_cons_succ, i64_w, i32_w]
            rfl
          refine pure_ (i := 18) (N := some 92) (v := ?_) (a' := ?_) #[true, true, true, true, true, true, true, true, true, true, true, true, true, true, true, true, true, true, true, false, false] rfl rfl (any_of (md := .any) (ops := opsOf Try.f3 19) F3tab19 (by kernel_rfl)) (fun _ _ _ h => h) (Or.inl ⟨by rfl, ?_⟩) ?_ ?_
          rotate_left
          · intro w'
            go_simp
            rw [if_neg CAT.out]
          rotate_left
          · simp only [Act.put, List.setIfInBounds_toArray, List.set_cons_zero, List.set_cons_succ, i64_w, i32_w]
            rfl
          refine pure_ (i := 19) (N := some 93) (v := ?_) (a' := ?_) #[true, true, true, true, true, true, true, true, true, true, true, true, true, true, true, true, true, true, true, true, false] rfl rfl (any_of (md := .any) (ops := opsOf Try.f3 19) F3tab19 (by kernel_rfl)) (fun _ _ _ h => h) (Or.inl ⟨by rfl, ?_⟩) ?_ ?_
          rotate_left
          · intro w'
            go_simp
            with_reducible rfl
          rotate_left
          · simp only [Act.put, List.setIfInBounds_toArray, List.set_cons_zero, List.set_cons_succ, i64_w, i32_w]
            rfl
          refine pure_ (i := 20) (N := some 94) (v := ?_) (a' := ?_) #[true, true, true, true, true, true, true, true, true, true, true, true, true, true, true, true, true, true, true, true, true] rfl rfl (any_of (md := .any) (ops := opsOf Try.f3 19) F3tab19 (by kernel_rfl)) (fun _ _ _ h => h) (Or.inl ⟨by rfl, ?_⟩) ?_ ?_
          rotate_left
          · intro w'
            go_simp
            with_reducible rfl
          rotate_left
          · simp only [Act.put, List.setIfInBounds_toArray, List.set_cons_zero, List.set_cons_succ, i64_w, i32_w]
            rfl
          refine done_ (done_of (md := .any) (ops := opsOf Try.f3 19) F3tab19 (by kernel_rfl)) ?_
          clear hHeld
          go_wp2_with fail
          go_roundg (l.length - (i + 1))
          case measure => have := HK.out; omega
          case rel => exact ⟨i + 1, by simp, by omega, ⟨by have := HK.out; omega⟩, IV, G8, G9⟩
        · obtain rfl : i = l.length := by omega
          go_wp2_with (first | ((with_reducible refine gate_dst (N := 95) rfl ?_); refine goesL_ (some 95) rfl rfl Try.func11 (by kernel_rfl) rfl #[] rfl (by (try simp only [List.map_toArray, List.map_cons, List.map_nil]); first | done | rfl) ?_; (refine (galleylaw10_told.calls true _ rfl).mono ?_); (rintro e w951 ⟨rfl, hb⟩; refine ⟨_, rfl, ?_⟩; have n0 := Aside0.mk (IV.out.step hb); clear IV hb; have IV := n0; clear n0)))
          go_ret
          exact ⟨rfl, IV.out.hb⟩
set_option maxHeartbeats 8000000 in
theorem lits_row (l : List ByteArray) (A : Option Addr) (c : Nat) (w : World) (hl : Kd.C Kd.string w A l.length l) (hc : l.length ≤ c) (h6 : decide (12 < (l.length : Int)) = false) (hl12 : l.length ≤ 12) : Calls Try.prog 3 #[.slice A l.length c, .bool false] w fun e w' => e = .returned (.bool true) ∧ Below w.heap.size w w' := by
  have hu26 := Try.underlying26
  have HL := Aside0.mk hl
  have HC := Aside0.mk hc
  have HB := Aside0.mk (Below.refl w.heap.size w)
  clear hl hc
  have H12 := Aside0.mk hl12
  have hn0 : 0 ≤ (l.length : Int) := by omega
  have hn1 : (l.length : Int) ≤ 12 := by omega
  clear hl12
  go_enter Try.func3, Try.ntmps3
  go_upto_region 4 with (fail)
  have IV := Aside0.mk (show IvL w (w.alloc (.cells #[.int .i64 4, .string (⟨#[]⟩ : ByteArray), .slice none 0 0, .bool false, .bool false, .slice none 0 0, .slice none 0 0] 26 (0, 0))) w.heap.size 4 [] none 0 from ⟨below_alloc HB.out _, blk_new _ _, Kd.F_nil _ _ _, Nat.le_refl _, Nat.le_refl _⟩)
  clear HB
  generalize w.heap.size = gn at IV ⊢
  generalize w.alloc _ = w2 at IV ⊢
  go_wp2_with fail
  go_loopg [6] l.length (fun k' v6 wr => ∃ (j : Nat) (A2 : Option Addr) (c2 : Nat), v6 = .int .i64 ((j : Int) - 1) ∧ j ≤ l.length ∧ Aside0 (k' = j) ∧ Aside0 (IvL w wr gn (kdL false (l.drop j)) (LL false (l.drop j)) A2 c2) ∧ Aside0 (∀ i (h : i < l.length), j ≤ i → l[i].size ≤ 50))
  case atStart => exact ⟨l.length, none, 0, by rfl, Nat.le_refl _, ⟨rfl⟩, ⟨by rw [List.drop_length]; exact IV.out⟩, ⟨fun i h h1 => absurd h (by omega)⟩⟩
  case round =>
    clear IV
    obtain ⟨j, A2, c2, rfl, hj, HK, IV, HZ⟩ := hrel
    cases j with
    | succ m =>
      have hlt : m < l.length := hj
      obtain ⟨ad, e0, tx⟩ := text_at HL.out m hlt
      cases e0
      have TX : Aside0 (∀ w', Below w.heap.size w w' → w'.cell? (ad.add m) = some (.string l[m])) := ⟨fun w' hb => (hb.cell (World.block_lt_of_cell? w _ tx)).trans tx⟩
      have EY := Aside0.mk (drop_pred l m hlt)
      clear tx
      obtain ⟨y, hy⟩ : ∃ y, y = l[m] := ⟨_, rfl⟩
      have HY := Aside0.mk hy
      rw [← hy] at TX EY
      clear hy
      have em : (((m + 1 : Nat) : Int) - 1) = (m : Int) := by omega
      rw [em]
      clear em
      have hm0 : 0 ≤ (m : Int) := by omega
      have hm1 : (m : Int) ≤ 12 := by omega
      have q0 := TX.out _ IV.out.hb
      cases h50 : decide (50 < (y.size : Int))
      rotate_left
      · go_wp2_with (first | ((with_reducible refine gate_dst (N := 29) rfl ?_); refine goesL_ (some 29) rfl rfl Try.func11 (by kernel_rfl) rfl #[] rfl (by (try simp only [List.map_toArray, List.map_cons, List.map_nil]); first | done | rfl) ?_; (refine (galleylaw10_told.calls true _ rfl).mono ?_); (rintro e w301 ⟨rfl, hb⟩; refine ⟨_, rfl, ?_⟩; have n0 := Aside0.mk (IV.out.step hb); clear IV hb; have IV := n0; clear n0)))
        go_ret
        exact ⟨rfl, IV.out.hb⟩
      have CAT : Aside0 (¬ (9223372036854775807 < 1 + y.size)) := ⟨by have : ¬ (50 < (y.size : Int)) := of_decide_eq_false h50; omega⟩
      go_wp2_with fail
      clear q0
      have n0 := Aside0.mk (IV.out.step (below_drew1 (Below.refl _ _)))
      clear IV
      have IV := n0
      clear n0
      refine start_ (n := 13) (S := fun w' => w'.cell? (ad.add m) = some (.string y) ∧ True) (ds := [12]) #[false, false, false, false, false, false, false, false, false, false, false, false, false] (by kernel_rfl) rfl rfl (⟨TX.out _ IV.out.hb, trivial⟩) (fun hHeld => ?_)
      generalize World.drew _ = w500 at IV hHeld ⊢
      refine pure_ (i := 0) (N := some 30) (v := ?_) (a' := ?_) #[true, false, false, false, false, false, false, false, false, false, false, false, false] rfl rfl (any_of (md := .any) (ops := opsOf Try.f3 9) F3tab9 (by kernel_rfl)) (fun _ _ _ h => h) (Or.inl ⟨by rfl, ?_⟩) ?_ ?_
      rotate_left
      · intro w'
        go_simp
        with_reducible rfl
      rotate_left
      · simp only [Act.put, List.setIfInBounds_toArray, List.set_cons_zero, List.set_cons_succ, i64_w, i32_w]
        rfl
      refine pure_ (i := 1) (N := some 31) (v := ?_) (a' := ?_) #[true, true, false, false, false, false, false, false, false, false, false, false, false] rfl rfl (any_of (md := .any) (ops := opsOf Try.f3 9) F3tab9 (by kernel_rfl)) (fun _ _ _ h => h) (Or.inl ⟨by rfl, ?_⟩) ?_ ?_
      rotate_left
      · intro w'
        go_simp
        with_reducible rfl
      rotate_left
      · simp only [Act.put, List.setIfInBounds_toArray, List.set_cons_zero, List.set_cons_succ, i64_w, i32_w]
        rfl
      refine pure_ (i := 2) (N := some 32) (v := ?_) (a' := ?_) #[true, true, true, false, false, false, false, false, false, false, false, false, false] rfl rfl (any_of (md := .any) (ops := opsOf Try.f3 9) F3tab9 (by kernel_rfl)) (fun _ _ _ h => h) (Or.inl ⟨by rfl, ?_⟩) ?_ ?_
      rotate_left
      · intro w'
        go_simp
        with_reducible rfl
      rotate_left
      · simp only [Act.put, List.setIfInBounds_toArray, List.set_cons_zero, List.set_cons_succ, i64_w, i32_w]
        rfl
      refine take_ (i := 3) (N := some 33) (v := ?_) (a' := ?_) #[true, true, true, true, false, false, false, false, false, false, false, false, false] rfl rfl (take_of (md := .any) (ops := opsOf Try.f3 9) F3tab9 (by kernel_rfl)) (fun _ _ _ h => h) (Or.inl ⟨by rfl, ?_⟩) hHeld ?_ ?_
      rotate_left
      · rintro w' ⟨s0, s1⟩
        go_simp
        with_reducible rfl
      rotate_left
      · simp only [Act.put, List.setIfInBounds_toArray, List.set_cons_zero, List.set_cons_succ, i64_w, i32_w]
        rfl
      refine pure_ (i := 4) (N := some 34) (v := ?_) (a' := ?_) #[true, true, true, true, true, false, false, false, false, false, false, false, false] rfl rfl (any_of (md := .any) (ops := opsOf Try.f3 9) F3tab9 (by kernel_rfl)) (fun _ _ _ h => h) (Or.inl ⟨by rfl, ?_⟩) ?_ ?_
      rotate_left
      · intro w'
        go_simp
        with_reducible rfl
      rotate_left
      · simp only [Act.put, List.setIfInBounds_toArray, List.set_cons_zero, List.set_cons_succ, i64_w, i32_w]
        rfl
      refine pure_ (i := 5) (N := some 35) (v := ?_) (a' := ?_) #[true, true, true, true, true, true, false, false, false, false, false, false, false] rfl rfl (any_of (md := .any) (ops := opsOf Try.f3 9) F3tab9 (by kernel_rfl)) (fun _ _ _ h => h) (Or.inl ⟨by rfl, ?_⟩) ?_ ?_
      rotate_left
      · intro w'
        go_simp
        with_reducible rfl
      rotate_left
      · simp only [Act.put, List.setIfInBounds_toArray, List.set_cons_zero, List.set_cons_succ, i64_w, i32_w]
        rfl
      refine pure_ (i := 6) (N := some 36) (v := ?_) (a' := ?_) #[true, true, true, true, true, true, true, false, false, false, false, false, false] rfl rfl (any_of (md := .any) (ops := opsOf Try.f3 9) F3tab9 (by kernel_rfl)) (fun _ _ _ h => h) (Or.inl ⟨by rfl, ?_⟩) ?_ ?_
      rotate_left
      · intro w'
        go_simp
        with_reducible rfl
      rotate_left
      · simp only [Act.put, List.setIfInBounds_toArray, List.set_cons_zero, List.set_cons_succ, i64_w, i32_w]
        rfl
      refine take_ (i := 7) (N := some 37) (v := ?_) (a' := ?_) #[true, true, true, true, true, true, true, true, false, false, false, false, false] rfl rfl (take_of (md := .any) (ops := opsOf Try.f3 9) F3tab9 (by kernel_rfl)) (fun _ _ _ h => h) (Or.inl ⟨by rfl, ?_⟩) hHeld ?_ ?_
      rotate_left
      · rintro w' ⟨s0, s1⟩
        go_simp
        with_reducible rfl
      rotate_left
      · simp only [Act.put, List.setIfInBounds_toArray, List.set_cons_zero, List.set_cons_succ, i64_w, i32_w]
        rfl
      refine pure_ (i := 8) (N := some 38) (v := ?_) (a' := ?_) #[true, true, true, true, true, true, true, true, true, false, false, false, false] rfl rfl (any_of (md := .any) (ops := opsOf Try.f3 9) F3tab9 (by kernel_rfl)) (fun _ _ _ h => h) (Or.inl ⟨by rfl, ?_⟩) ?_ ?_
      rotate_left
      · intro w'
        go_simp
        rw [if_neg CAT.out]
      rotate_left
      · simp only [Act.put, List.setIfInBounds_toArray, List.set_cons_zero, List.set_cons_succ, i64_w, i32_w]
        rfl
      refine two_ (i := 9) (j := 11) (Ni := some 39) (Nj := some 7) #[true, true, true, true, true, true, true, true, true, true, false, false, false] #[true, true, true, true, true, true, true, true, true, false, false, true, false] rfl rfl rfl rfl (two_of (md := .any) (ops := opsOf Try.f3 9) F3tab9 (by kernel_rfl)) (by decide) (by decide) (fun K hK => ?_) (fun K hK => ?_)
      · refine lit_step (m := 1) (cs := #[.string (pcB y)]) (t := 9) (by rfl) ?hrun ?_
        case hrun => first | (go_simp; done) | (go_simp; rfl)
        intro gs hg w501 hbox hb
        have SN := Aside0.mk (show gs ≠ gn from by rw [hg]; exact Nat.ne_of_gt (blk_lt IV.out.bn)); have BS := Aside0.mk hbox; have n0 := Aside0.mk (IV.out.step hb); clear IV hb; have IV := n0; clear n0
        clear hbox hg
        refine hK.out _ _ (⟨TX.out _ IV.out.hb, trivial⟩) (fun hHeld => ?_)
        clear hK K
        refine norm_ (a' := ?_) ?_ ?_
        rotate_left
        · show Act.put _ (some 39) _ = _
          simp only [Act.put, List.setIfInBounds_toArray, List.set_cons_zero, List.set_cons_succ, i64_w, i32_w]
          rfl
        refine pure_ (i := 10) (N := some 40) (v := ?_) (a' := ?_) #[true, true, true, true, true, true, true, true, true, true, true, false, false] rfl rfl (any_of (md := .any) (ops := opsOf Try.f3 9) F3tab9 (by kernel_rfl)) (fun _ _ _ h => h) (Or.inl ⟨by rfl, ?_⟩) ?_ ?_
        rotate_left
        · intro w'
          go_simp
          with_reducible rfl
        rotate_left
        · simp only [Act.put, List.setIfInBounds_toArray, List.set_cons_zero, List.set_cons_succ, i64_w, i32_w]
          rfl
        refine one_ (i := 11) (N := some 7) #[true, true, true, true, true, true, true, true, true, true, true, true, false] rfl rfl (one_of (md := .any) (ops := opsOf Try.f3 9) F3tab9 (by kernel_rfl)) (by decide) (fun K hK => ?_)
        refine box_step (by rfl) (N := 7) rfl (cs := #[.int .i64 0, .string (⟨#[]⟩ : ByteArray), .slice none 0 0, .bool false, .bool false, .slice none 0 0, .slice none 0 0]) (t := 26) ?hrun ?_
        case hrun => first | (go_simp; done) | (go_simp; rfl)
        intro gx hg w502 hbox hb
        have NX := Aside0.mk (show gn ≠ gx from by rw [hg]; exact Nat.ne_of_lt (blk_lt IV.out.bn)); have GX := Aside0.mk (show w.heap.size ≤ gx from by rw [hg]; exact IV.out.hb.size); have FX := Aside0.mk (Kd.F_below (Kd.F_elderB IV.out.fl gx (Nat.le_of_eq hg.symm)) hb); have BX := Aside0.mk hbox; have SX := Aside0.mk (show gs ≠ gx from by rw [hg]; exact Nat.ne_of_lt (blk_lt BS.out)); have n0 := Aside0.mk (IV.out.step hb); have n3 := Aside0.mk (blk_below BS.out hb); clear IV BS hb; have IV := n0; have BS := n3; clear n0 n3
        clear hbox hg
        refine hK.out _ _ (⟨TX.out _ IV.out.hb, trivial⟩) (fun hHeld => ?_)
        clear hK K
        refine norm_ (a' := ?_) ?_ ?_
        rotate_left
        · show Act.put _ (some 7) _ = _
          simp only [Act.put, List.setIfInBounds_toArray, List.set_cons_zero, List.set_cons_succ, i64_w, i32_w]
          rfl
        refine last_ (i := 12) (N := none) #[true, true, true, true, true, true, true, true, true, true, true, true, true] rfl rfl (one_of (md := .any) (ops := opsOf Try.f3 9) F3tab9 (by kernel_rfl)) (by decide) (fun K hK => ?_)
        have hz0 : w502.cell? ⟨gx, 0, none⟩ = some (.int .i64 0) := (blk_cell BX.out 0).trans rfl
        have hz1 : w502.cell? ⟨gx, 1, none⟩ = some (.string (⟨#[]⟩ : ByteArray)) := (blk_cell BX.out 1).trans rfl
        have hz2 : w502.cell? ⟨gx, 2, none⟩ = some (.slice none 0 0) := (blk_cell BX.out 2).trans rfl
        have hz3 : w502.cell? ⟨gx, 3, none⟩ = some (.bool false) := (blk_cell BX.out 3).trans rfl
        have hz4 : w502.cell? ⟨gx, 4, none⟩ = some (.bool false) := (blk_cell BX.out 4).trans rfl
        have hz5 : w502.cell? ⟨gx, 5, none⟩ = some (.slice none 0 0) := (blk_cell BX.out 5).trans rfl
        have hz6 : w502.cell? ⟨gx, 6, none⟩ = some (.slice none 0 0) := (blk_cell BX.out 6).trans rfl
        have zf0 := blk_frozen BX.out 0
        have zf1 := blk_frozen BX.out 1
        have zf2 := blk_frozen BX.out 2
        have zf3 := blk_frozen BX.out 3
        have zf4 := blk_frozen BX.out 4
        have zf5 := blk_frozen BX.out 5
        have zf6 := blk_frozen BX.out 6
        refine skip_ (w1 := set7 w502 gx (.int .i64 1) (.string y) (.slice none 0 0) (.bool false) (.bool false) (.slice (some ⟨gs, 0, none⟩) 1 1) (.slice none 0 0)) rfl rfl ?hrun ?_
        case hrun => first | (go_simp; done) | (go_simp; rfl)
        refine hK.out _ _ (done_ (done_of (md := .any) (ops := opsOf Try.f3 9) F3tab9 (by kernel_rfl)) ?_)
        have I2 := Aside0.mk (IV.out.fill FX.out NX.out GX.out (v0 := .int .i64 1) (v1 := .string y) (v2 := .slice none 0 0) (v3 := .bool false) (v4 := .bool false) (v5 := .slice (some ⟨gs, 0, none⟩) 1 1) (v6 := .slice none 0 0))
        have B2 := Aside0.mk (set7_blk BX.out (v0 := .int .i64 1) (v1 := .string y) (v2 := .slice none 0 0) (v3 := .bool false) (v4 := .bool false) (v5 := .slice (some ⟨gs, 0, none⟩) 1 1) (v6 := .slice none 0 0))
        have S2 := Aside0.mk ((set7_other (v0 := .int .i64 1) (v1 := .string y) (v2 := .slice none 0 0) (v3 := .bool false) (v4 := .bool false) (v5 := .slice (some ⟨gs, 0, none⟩) 1 1) (v6 := .slice none 0 0) SX.out).trans BS.out)
        clear IV FX BX BS GX hz0 hz1 hz2 hz3 hz4 hz5 hz6 zf0 zf1 zf2 zf3 zf4 zf5 zf6 hK hHeld
        generalize set7 w502 gx (.int .i64 1) (.string y) (.slice none 0 0) (.bool false) (.bool false) (.slice (some ⟨gs, 0, none⟩) 1 1) (.slice none 0 0) = w600 at I2 B2 S2 ⊢
        have hx0 : w600.cell? ⟨gx, 0, none⟩ = some (.int .i64 1) := (blk_cell B2.out 0).trans rfl
        have hx1 : w600.cell? ⟨gx, 1, none⟩ = some (.string y) := (blk_cell B2.out 1).trans rfl
        have hx2 : w600.cell? ⟨gx, 2, none⟩ = some (.slice none 0 0) := (blk_cell B2.out 2).trans rfl
        have hx3 : w600.cell? ⟨gx, 3, none⟩ = some (.bool false) := (blk_cell B2.out 3).trans rfl
        have hx4 : w600.cell? ⟨gx, 4, none⟩ = some (.bool false) := (blk_cell B2.out 4).trans rfl
        have hx5 : w600.cell? ⟨gx, 5, none⟩ = some (.slice (some ⟨gs, 0, none⟩) 1 1) := (blk_cell B2.out 5).trans rfl
        have hx6 : w600.cell? ⟨gx, 6, none⟩ = some (.slice none 0 0) := (blk_cell B2.out 6).trans rfl
        have hn0 : w600.cell? ⟨gn, 0, none⟩ = some (.int .i64 (kdL false (l.drop (m + 1)))) := (blk_cell I2.out.bn 0).trans rfl
        have hn1 : w600.cell? ⟨gn, 1, none⟩ = some (.string (⟨#[]⟩ : ByteArray)) := (blk_cell I2.out.bn 1).trans rfl
        have hn2 : w600.cell? ⟨gn, 2, none⟩ = some (.slice A2 ((LL false (l.drop (m + 1)))).length c2) := (blk_cell I2.out.bn 2).trans rfl
        have hn3 : w600.cell? ⟨gn, 3, none⟩ = some (.bool false) := (blk_cell I2.out.bn 3).trans rfl
        have hn4 : w600.cell? ⟨gn, 4, none⟩ = some (.bool false) := (blk_cell I2.out.bn 4).trans rfl
        have hn5 : w600.cell? ⟨gn, 5, none⟩ = some (.slice none 0 0) := (blk_cell I2.out.bn 5).trans rfl
        have hn6 : w600.cell? ⟨gn, 6, none⟩ = some (.slice none 0 0) := (blk_cell I2.out.bn 6).trans rfl
        have nf0 := blk_frozen I2.out.bn 0
        have nf1 := blk_frozen I2.out.bn 1
        have nf2 := blk_frozen I2.out.bn 2
        have nf3 := blk_frozen I2.out.bn 3
        have nf4 := blk_frozen I2.out.bn 4
        have nf5 := blk_frozen I2.out.bn 5
        have nf6 := blk_frozen I2.out.bn 6
        have LN := Aside0.mk (LL_len false (l.drop (m + 1)) (by have := H12.out; simp; omega))
        go_wp2_with (first | ((with_reducible refine gate_dst (N := 47) rfl ?_); refine Kd.N_lit k26 (w0 := w) w.heap.size 26 ?hg (N' := 47) ?hd (xs := [xL y]) (inner := [.int .i64 1, .string y, .slice none 0 0, .bool false, .bool false, .slice (some ⟨gs, 0, none⟩) 1 1, .slice none 0 0]) (ok := (fun k_ => k_ ≠ gn)) (okp := (fun k_ => k_ ≠ gn)) ?hr ?hp (fun _ hk => hk) ?hfr I2.out.hb I2.out.hb.size (by simp) ?_; (case hd => rfl); (case hg => rfl); (case hr => first | (go_simp; done) | (go_simp; rfl)); (case hp => exact reps_one26 (FK_xL S2.out SN.out)); (case hfr => exact Nat.ne_of_gt (blk_lt I2.out.bn)); intro v47 w701 hn47 hb_ hgr hat; have HN := Aside0.mk hn47; have NA := Aside0.mk (I2.out.apart hgr hat); have I4 := Aside0.mk (I2.out.grown0 hgr hb_); clear I2 hb_ hgr hat hn47; clear hx0 hn0 hx1 hn1 hx2 hn2 hx3 hn3 hx4 hn4 hx5 hn5 hx6 hn6 nf0 nf1 nf2 nf3 nf4 nf5 nf6; have hn0 : w701.cell? ⟨gn, 0, none⟩ = some (.int .i64 (kdL false (l.drop (m + 1)))) := (blk_cell I4.out.bn 0).trans rfl; have hn1 : w701.cell? ⟨gn, 1, none⟩ = some (.string (⟨#[]⟩ : ByteArray)) := (blk_cell I4.out.bn 1).trans rfl; have hn2 : w701.cell? ⟨gn, 2, none⟩ = some (.slice A2 ((LL false (l.drop (m + 1)))).length c2) := (blk_cell I4.out.bn 2).trans rfl; have hn3 : w701.cell? ⟨gn, 3, none⟩ = some (.bool false) := (blk_cell I4.out.bn 3).trans rfl; have hn4 : w701.cell? ⟨gn, 4, none⟩ = some (.bool false) := (blk_cell I4.out.bn 4).trans rfl; have hn5 : w701.cell? ⟨gn, 5, none⟩ = some (.slice none 0 0) := (blk_cell I4.out.bn 5).trans rfl; have hn6 : w701.cell? ⟨gn, 6, none⟩ = some (.slice none 0 0) := (blk_cell I4.out.bn 6).trans rfl; have nf0 := blk_frozen I4.out.bn 0; have nf1 := blk_frozen I4.out.bn 1; have nf2 := blk_frozen I4.out.bn 2; have nf3 := blk_frozen I4.out.bn 3; have nf4 := blk_frozen I4.out.bn 4; have nf5 := blk_frozen I4.out.bn 5; have nf6 := blk_frozen I4.out.bn 6; obtain ⟨A47, c47, e47⟩ := Kd.N_slice HN.out; subst e47) | ((with_reducible refine gate_dst (N := 50) rfl ?_); refine Kd.N_append_rows k26 (w0 := w) w.heap.size rfl (.tmp 47) (.tmp 49) 24 26 (.agg #[(.int .i64 0), (.string ⟨#[]⟩), (.slice none 0 0), (.bool false), (.bool false), (.slice none 0 0), (.slice none 0 0)]) 104 rfl Try.underlying24 info26 rfl (by decide) (by omega) (.slice A47 [xL y].length c47) [xL y] (LL false (l.drop (m + 1))) A2 _ c2 (fun k_ => k_ ≠ gn) (fun k_ => k_ ≠ gn ∧ some k_ ≠ (Value.slice A47 [xL y].length c47).ownBlock) rfl rfl HN.out NA.out.2 (fun _ hk => hk) ?fr I4.out.hb I4.out.hb.size ?ln ?_; (case fr => exact fun k_ hk => Nat.ne_of_gt (Nat.lt_of_lt_of_le (blk_lt I4.out.bn) hk)); (case ln => have h12 := LN.out; simp only [List.length_cons, List.length_nil]; omega); intro v50 w702 hn50 hb_ hgr hat; have HN2 := Aside0.mk hn50; have I6 := Aside0.mk (I4.out.grown hgr hb_ NA.out.1 NA.out.2); clear I4 NA HN hb_ hgr hat hn50; clear hn0 hn1 hn2 hn3 hn4 hn5 hn6 nf0 nf1 nf2 nf3 nf4 nf5 nf6; have hn0 : w702.cell? ⟨gn, 0, none⟩ = some (.int .i64 (kdL false (l.drop (m + 1)))) := (blk_cell I6.out.bn 0).trans rfl; have hn1 : w702.cell? ⟨gn, 1, none⟩ = some (.string (⟨#[]⟩ : ByteArray)) := (blk_cell I6.out.bn 1).trans rfl; have hn2 : w702.cell? ⟨gn, 2, none⟩ = some (.slice A2 ((LL false (l.drop (m + 1)))).length c2) := (blk_cell I6.out.bn 2).trans rfl; have hn3 : w702.cell? ⟨gn, 3, none⟩ = some (.bool false) := (blk_cell I6.out.bn 3).trans rfl; have hn4 : w702.cell? ⟨gn, 4, none⟩ = some (.bool false) := (blk_cell I6.out.bn 4).trans rfl; have hn5 : w702.cell? ⟨gn, 5, none⟩ = some (.slice none 0 0) := (blk_cell I6.out.bn 5).trans rfl; have hn6 : w702.cell? ⟨gn, 6, none⟩ = some (.slice none 0 0) := (blk_cell I6.out.bn 6).trans rfl; have nf0 := blk_frozen I6.out.bn 0; have nf1 := blk_frozen I6.out.bn 1; have nf2 := blk_frozen I6.out.bn 2; have nf3 := blk_frozen I6.out.bn 3; have nf4 := blk_frozen I6.out.bn 4; have nf5 := blk_frozen I6.out.bn 5; have nf6 := blk_frozen I6.out.bn 6; obtain ⟨A50, c50, e50⟩ := Kd.N_slice HN2.out; subst e50))
        have I3 := Aside0.mk (I6.out.renew2 (Kd.N_F HN2.out) (Kd.N_reads' HN2.out).2.1)
        have e5 : kdL false (l.drop m) = (kdL false (l.drop (m + 1))) := by rw [kd_row, kd_row]
        have e6 : LL false (l.drop m) = ([xL y] ++ (LL false (l.drop (m + 1)))) := by rw [EY.out]; exact LL_row _ _
        go_roundg m
        case measure => have := HK.out; omega
        case rel => exact ⟨m, _, _, rfl, by omega, ⟨rfl⟩, ⟨by rw [e5, e6]; exact I3.out⟩, ⟨fun i h h1 => by
          rcases Nat.lt_or_ge m i with h2 | h2
          · exact HZ.out i h h2
          · obtain rfl : i = m := by omega
            rw [← HY.out]
            have : ¬ (50 < (y.size : Int)) := of_decide_eq_false h50
            omega⟩⟩
      · refine box_step (by rfl) (N := 7) rfl (cs := #[.int .i64 0, .string (⟨#[]⟩ : ByteArray), .slice none 0 0, .bool false, .bool false, .slice none 0 0, .slice none 0 0]) (t := 26) ?hrun ?_
        case hrun => first | (go_simp; done) | (go_simp; rfl)
        intro gx hg w501 hbox hb
        have NX := Aside0.mk (show gn ≠ gx from by rw [hg]; exact Nat.ne_of_lt (blk_lt IV.out.bn)); have GX := Aside0.mk (show w.heap.size ≤ gx from by rw [hg]; exact IV.out.hb.size); have FX := Aside0.mk (Kd.F_below (Kd.F_elderB IV.out.fl gx (Nat.le_of_eq hg.symm)) hb); have BX := Aside0.mk hbox; have n0 := Aside0.mk (IV.out.step hb); clear IV hb; have IV := n0; clear n0
        clear hbox hg
        refine hK.out _ _ (⟨TX.out _ IV.out.hb, trivial⟩) (fun hHeld => ?_)
        clear hK K
        refine norm_ (a' := ?_) ?_ ?_
        rotate_left
        · show Act.put _ (some 7) _ = _
          simp only [Act.put, List.setIfInBounds_toArray, List.set_cons_zero, List.set_cons_succ, i64_w, i32_w]
          rfl
        refine one_ (i := 9) (N := some 39) #[true, true, true, true, true, true, true, true, true, true, false, true, false] rfl rfl (one_of (md := .any) (ops := opsOf Try.f3 9) F3tab9 (by kernel_rfl)) (by decide) (fun K hK => ?_)
        refine lit_step (m := 1) (cs := #[.string (pcB y)]) (t := 9) (by rfl) ?hrun ?_
        case hrun => first | (go_simp; done) | (go_simp; rfl)
        intro gs hg w502 hbox hb
        have SN := Aside0.mk (show gs ≠ gn from by rw [hg]; exact Nat.ne_of_gt (blk_lt IV.out.bn)); have BS := Aside0.mk hbox; have SX := Aside0.mk (show gs ≠ gx from by rw [hg]; exact Nat.ne_of_gt (blk_lt BX.out)); have n0 := Aside0.mk (IV.out.step hb); have n1 := Aside0.mk (Kd.F_below FX.out hb); have n2 := Aside0.mk (blk_below BX.out hb); clear IV FX BX hb; have IV := n0; have FX := n1; have BX := n2; clear n0 n1 n2
        clear hbox hg
        refine hK.out _ _ (⟨TX.out _ IV.out.hb, trivial⟩) (fun hHeld => ?_)
        clear hK K
        refine norm_ (a' := ?_) ?_ ?_
        rotate_left
        · show Act.put _ (some 39) _ = _
          simp only [Act.put, List.setIfInBounds_toArray, List.set_cons_zero, List.set_cons_succ, i64_w, i32_w]
          rfl
        refine pure_ (i := 10) (N := some 40) (v := ?_) (a' := ?_) #[true, true, true, true, true, true, true, true, true, true, true, true, false] rfl rfl (any_of (md := .any) (ops := opsOf Try.f3 9) F3tab9 (by kernel_rfl)) (fun _ _ _ h => h) (Or.inl ⟨by rfl, ?_⟩) ?_ ?_
        rotate_left
        · intro w'
          go_simp
          with_reducible rfl
        rotate_left
        · simp only [Act.put, List.setIfInBounds_toArray, List.set_cons_zero, List.set_cons_succ, i64_w, i32_w]
          rfl
        refine last_ (i := 12) (N := none) #[true, true, true, true, true, true, true, true, true, true, true, true, true] rfl rfl (one_of (md := .any) (ops := opsOf Try.f3 9) F3tab9 (by kernel_rfl)) (by decide) (fun K hK => ?_)
        have hz0 : w502.cell? ⟨gx, 0, none⟩ = some (.int .i64 0) := (blk_cell BX.out 0).trans rfl
        have hz1 : w502.cell? ⟨gx, 1, none⟩ = some (.string (⟨#[]⟩ : ByteArray)) := (blk_cell BX.out 1).trans rfl
        have hz2 : w502.cell? ⟨gx, 2, none⟩ = some (.slice none 0 0) := (blk_cell BX.out 2).trans rfl
        have hz3 : w502.cell? ⟨gx, 3, none⟩ = some (.bool false) := (blk_cell BX.out 3).trans rfl
        have hz4 : w502.cell? ⟨gx, 4, none⟩ = some (.bool false) := (blk_cell BX.out 4).trans rfl
        have hz5 : w502.cell? ⟨gx, 5, none⟩ = some (.slice none 0 0) := (blk_cell BX.out 5).trans rfl
        have hz6 : w502.cell? ⟨gx, 6, none⟩ = some (.slice none 0 0) := (blk_cell BX.out 6).trans rfl
        have zf0 := blk_frozen BX.out 0
        have zf1 := blk_frozen BX.out 1
        have zf2 := blk_frozen BX.out 2
        have zf3 := blk_frozen BX.out 3
        have zf4 := blk_frozen BX.out 4
        have zf5 := blk_frozen BX.out 5
        have zf6 := blk_frozen BX.out 6
        refine skip_ (w1 := set7 w502 gx (.int .i64 1) (.string y) (.slice none 0 0) (.bool false) (.bool false) (.slice (some ⟨gs, 0, none⟩) 1 1) (.slice none 0 0)) rfl rfl ?hrun ?_
        case hrun => first | (go_simp; done) | (go_simp; rfl)
        refine hK.out _ _ (done_ (done_of (md := .any) (ops := opsOf Try.f3 9) F3tab9 (by kernel_rfl)) ?_)
        have I2 := Aside0.mk (IV.out.fill FX.out NX.out GX.out (v0 := .int .i64 1) (v1 := .string y) (v2 := .slice none 0 0) (v3 := .bool false) (v4 := .bool false) (v5 := .slice (some ⟨gs, 0, none⟩) 1 1) (v6 := .slice none 0 0))
        have B2 := Aside0.mk (set7_blk BX.out (v0 := .int .i64 1) (v1 := .string y) (v2 := .slice none 0 0) (v3 := .bool false) (v4 := .bool false) (v5 := .slice (some ⟨gs, 0, none⟩) 1 1) (v6 := .slice none 0 0))
        have S2 := Aside0.mk ((set7_other (v0 := .int .i64 1) (v1 := .string y) (v2 := .slice none 0 0) (v3 := .bool false) (v4 := .bool false) (v5 := .slice (some ⟨gs, 0, none⟩) 1 1) (v6 := .slice none 0 0) SX.out).trans BS.out)
        clear IV FX BX BS GX hz0 hz1 hz2 hz3 hz4 hz5 hz6 zf0 zf1 zf2 zf3 zf4 zf5 zf6 hK hHeld
        generalize set7 w502 gx (.int .i64 1) (.string y) (.slice none 0 0) (.bool false) (.bool false) (.slice (some ⟨gs, 0, none⟩) 1 1) (.slice none 0 0) = w600 at I2 B2 S2 ⊢
        have hx0 : w600.cell? ⟨gx, 0, none⟩ = some (.int .i64 1) := (blk_cell B2.out 0).trans rfl
        have hx1 : w600.cell? ⟨gx, 1, none⟩ = some (.string y) := (blk_cell B2.out 1).trans rfl
        have hx2 : w600.cell? ⟨gx, 2, none⟩ = some (.slice none 0 0) := (blk_cell B2.out 2).trans rfl
        have hx3 : w600.cell? ⟨gx, 3, none⟩ = some (.bool false) := (blk_cell B2.out 3).trans rfl
        have hx4 : w600.cell? ⟨gx, 4, none⟩ = some (.bool false) := (blk_cell B2.out 4).trans rfl
        have hx5 : w600.cell? ⟨gx, 5, none⟩ = some (.slice (some ⟨gs, 0, none⟩) 1 1) := (blk_cell B2.out 5).trans rfl
        have hx6 : w600.cell? ⟨gx, 6, none⟩ = some (.slice none 0 0) := (blk_cell B2.out 6).trans rfl
        have hn0 : w600.cell? ⟨gn, 0, none⟩ = some (.int .i64 (kdL false (l.drop (m + 1)))) := (blk_cell I2.out.bn 0).trans rfl
        have hn1 : w600.cell? ⟨gn, 1, none⟩ = some (.string (⟨#[]⟩ : ByteArray)) := (blk_cell I2.out.bn 1).trans rfl
        have hn2 : w600.cell? ⟨gn, 2, none⟩ = some (.slice A2 ((LL false (l.drop (m + 1)))).length c2) := (blk_cell I2.out.bn 2).trans rfl
        have hn3 : w600.cell? ⟨gn, 3, none⟩ = some (.bool false) := (blk_cell I2.out.bn 3).trans rfl
        have hn4 : w600.cell? ⟨gn, 4, none⟩ = some (.bool false) := (blk_cell I2.out.bn 4).trans rfl
        have hn5 : w600.cell? ⟨gn, 5, none⟩ = some (.slice none 0 0) := (blk_cell I2.out.bn 5).trans rfl
        have hn6 : w600.cell? ⟨gn, 6, none⟩ = some (.slice none 0 0) := (blk_cell I2.out.bn 6).trans rfl
        have nf0 := blk_frozen I2.out.bn 0
        have nf1 := blk_frozen I2.out.bn 1
        have nf2 := blk_frozen I2.out.bn 2
        have nf3 := blk_frozen I2.out.bn 3
        have nf4 := blk_frozen I2.out.bn 4
        have nf5 := blk_frozen I2.out.bn 5
        have nf6 := blk_frozen I2.out.bn 6
        have LN := Aside0.mk (LL_len false (l.drop (m + 1)) (by have := H12.out; simp; omega))
        go_wp2_with (first | ((with_reducible refine gate_dst (N := 47) rfl ?_); refine Kd.N_lit k26 (w0 := w) w.heap.size 26 ?hg (N' := 47) ?hd (xs := [xL y]) (inner := [.int .i64 1, .string y, .slice none 0 0, .bool false, .bool false, .slice (some ⟨gs, 0, none⟩) 1 1, .slice none 0 0]) (ok := (fun k_ => k_ ≠ gn)) (okp := (fun k_ => k_ ≠ gn)) ?hr ?hp (fun _ hk => hk) ?hfr I2.out.hb I2.out.hb.size (by simp) ?_; (case hd => rfl); (case hg => rfl); (case hr => first | (go_simp; done) | (go_simp; rfl)); (case hp => exact reps_one26 (FK_xL S2.out SN.out)); (case hfr => exact Nat.ne_of_gt (blk_lt I2.out.bn)); intro v47 w701 hn47 hb_ hgr hat; have HN := Aside0.mk hn47; have NA := Aside0.mk (I2.out.apart hgr hat); have I4 := Aside0.mk (I2.out.grown0 hgr hb_); clear I2 hb_ hgr hat hn47; clear hx0 hn0 hx1 hn1 hx2 hn2 hx3 hn3 hx4 hn4 hx5 hn5 hx6 hn6 nf0 nf1 nf2 nf3 nf4 nf5 nf6; have hn0 : w701.cell? ⟨gn, 0, none⟩ = some (.int .i64 (kdL false (l.drop (m + 1)))) := (blk_cell I4.out.bn 0).trans rfl; have hn1 : w701.cell? ⟨gn, 1, none⟩ = some (.string (⟨#[]⟩ : ByteArray)) := (blk_cell I4.out.bn 1).trans rfl; have hn2 : w701.cell? ⟨gn, 2, none⟩ = some (.slice A2 ((LL false (l.drop (m + 1)))).length c2) := (blk_cell I4.out.bn 2).trans rfl; have hn3 : w701.cell? ⟨gn, 3, none⟩ = some (.bool false) := (blk_cell I4.out.bn 3).trans rfl; have hn4 : w701.cell? ⟨gn, 4, none⟩ = some (.bool false) := (blk_cell I4.out.bn 4).trans rfl; have hn5 : w701.cell? ⟨gn, 5, none⟩ = some (.slice none 0 0) := (blk_cell I4.out.bn 5).trans rfl; have hn6 : w701.cell? ⟨gn, 6, none⟩ = some (.slice none 0 0) := (blk_cell I4.out.bn 6).trans rfl; have nf0 := blk_frozen I4.out.bn 0; have nf1 := blk_frozen I4.out.bn 1; have nf2 := blk_frozen I4.out.bn 2; have nf3 := blk_frozen I4.out.bn 3; have nf4 := blk_frozen I4.out.bn 4; have nf5 := blk_frozen I4.out.bn 5; have nf6 := blk_frozen I4.out.bn 6; obtain ⟨A47, c47, e47⟩ := Kd.N_slice HN.out; subst e47) | ((with_reducible refine gate_dst (N := 50) rfl ?_); refine Kd.N_append_rows k26 (w0 := w) w.heap.size rfl (.tmp 47) (.tmp 49) 24 26 (.agg #[(.int .i64 0), (.string ⟨#[]⟩), (.slice none 0 0), (.bool false), (.bool false), (.slice none 0 0), (.slice none 0 0)]) 104 rfl Try.underlying24 info26 rfl (by decide) (by omega) (.slice A47 [xL y].length c47) [xL y] (LL false (l.drop (m + 1))) A2 _ c2 (fun k_ => k_ ≠ gn) (fun k_ => k_ ≠ gn ∧ some k_ ≠ (Value.slice A47 [xL y].length c47).ownBlock) rfl rfl HN.out NA.out.2 (fun _ hk => hk) ?fr I4.out.hb I4.out.hb.size ?ln ?_; (case fr => exact fun k_ hk => Nat.ne_of_gt (Nat.lt_of_lt_of_le (blk_lt I4.out.bn) hk)); (case ln => have h12 := LN.out; simp only [List.length_cons, List.length_nil]; omega); intro v50 w702 hn50 hb_ hgr hat; have HN2 := Aside0.mk hn50; have I6 := Aside0.mk (I4.out.grown hgr hb_ NA.out.1 NA.out.2); clear I4 NA HN hb_ hgr hat hn50; clear hn0 hn1 hn2 hn3 hn4 hn5 hn6 nf0 nf1 nf2 nf3 nf4 nf5 nf6; have hn0 : w702.cell? ⟨gn, 0, none⟩ = some (.int .i64 (kdL false (l.drop (m + 1)))) := (blk_cell I6.out.bn 0).trans rfl; have hn1 : w702.cell? ⟨gn, 1, none⟩ = some (.string (⟨#[]⟩ : ByteArray)) := (blk_cell I6.out.bn 1).trans rfl; have hn2 : w702.cell? ⟨gn, 2, none⟩ = some (.slice A2 ((LL false (l.drop (m + 1)))).length c2) := (blk_cell I6.out.bn 2).trans rfl; have hn3 : w702.cell? ⟨gn, 3, none⟩ = some (.bool false) := (blk_cell I6.out.bn 3).trans rfl; have hn4 : w702.cell? ⟨gn, 4, none⟩ = some (.bool false) := (blk_cell I6.out.bn 4).trans rfl; have hn5 : w702.cell? ⟨gn, 5, none⟩ = some (.slice none 0 0) := (blk_cell I6.out.bn 5).trans rfl; have hn6 : w702.cell? ⟨gn, 6, none⟩ = some (.slice none 0 0) := (blk_cell I6.out.bn 6).trans rfl; have nf0 := blk_frozen I6.out.bn 0; have nf1 := blk_frozen I6.out.bn 1; have nf2 := blk_frozen I6.out.bn 2; have nf3 := blk_frozen I6.out.bn 3; have nf4 := blk_frozen I6.out.bn 4; have nf5 := blk_frozen I6.out.bn 5; have nf6 := blk_frozen I6.out.bn 6; obtain ⟨A50, c50, e50⟩ := Kd.N_slice HN2.out; subst e50))
        have I3 := Aside0.mk (I6.out.renew2 (Kd.N_F HN2.out) (Kd.N_reads' HN2.out).2.1)
        have e5 : kdL false (l.drop m) = (kdL false (l.drop (m + 1))) := by rw [kd_row, kd_row]
        have e6 : LL false (l.drop m) = ([xL y] ++ (LL false (l.drop (m + 1)))) := by rw [EY.out]; exact LL_row _ _
        go_roundg m
        case measure => have := HK.out; omega
        case rel => exact ⟨m, _, _, rfl, by omega, ⟨rfl⟩, ⟨by rw [e5, e6]; exact I3.out⟩, ⟨fun i h h1 => by
          rcases Nat.lt_or_ge m i with h2 | h2
          · exact HZ.out i h h2
          · obtain rfl : i = m := by omega
            rw [← HY.out]
            have : ¬ (50 < (y.size : Int)) := of_decide_eq_false h50
            omega⟩⟩
    | zero =>
      rw [List.drop_zero] at IV
      have em : (((0 : Nat) : Int) - 1) = -1 := rfl
      rw [em]
      clear em HK
      go_wp2_with fail
      have n0 := Aside0.mk (IV.out.step (below_drew1 (Below.refl _ _)))
      clear IV
      have IV := n0
      clear n0
      refine start_ (n := 6) (S := SL gn (kdL false l) (LL false l) A2 c2) (ds := []) #[false, false, false, false, false, false] (by kernel_rfl) rfl rfl (IV.out.S) (fun hHeld => ?_)
      generalize World.drew _ = w800 at IV hHeld ⊢
      refine take_ (i := 0) (N := some 52) (v := ?_) (a' := ?_) #[true, false, false, false, false, false] rfl rfl (take_of (md := .any) (ops := opsOf Try.f3 13) F3tab13 (by kernel_rfl)) (fun _ _ _ h => h) (Or.inl ⟨by rfl, ?_⟩) hHeld ?_ ?_
      rotate_left
      · rintro w' ⟨s0, s1, s2, s3, s4, s5, s6⟩
        go_simp
        with_reducible rfl
      rotate_left
      · simp only [Act.put, List.setIfInBounds_toArray, List.set_cons_zero, List.set_cons_succ, i64_w, i32_w]
        rfl
      refine take_ (i := 2) (N := some 54) (v := ?_) (a' := ?_) #[true, false, true, false, false, false] rfl rfl (take_of (md := .any) (ops := opsOf Try.f3 13) F3tab13 (by kernel_rfl)) (fun _ _ _ h => h) (Or.inl ⟨by rfl, ?_⟩) hHeld ?_ ?_
      rotate_left
      · rintro w' ⟨s0, s1, s2, s3, s4, s5, s6⟩
        go_simp
        with_reducible rfl
      rotate_left
      · simp only [Act.put, List.setIfInBounds_toArray, List.set_cons_zero, List.set_cons_succ, i64_w, i32_w]
        rfl
      refine one_ (i := 1) (N := some 53) #[true, true, true, false, false, false] rfl rfl (one_of (md := .any) (ops := opsOf Try.f3 13) F3tab13 (by kernel_rfl)) (by decide) (fun K hK => ?_)
      refine goes_ Try.func12 (by kernel_rfl) rfl #[.agg #[.int .i64 (kdL false l), .string (⟨#[]⟩ : ByteArray), .slice A2 (LL false l).length c2, .bool false, .bool false, .slice none 0 0, .slice none 0 0]] (by rfl) rfl rfl (by (try simp only [List.map_toArray, List.map_cons, List.map_nil]); first | done | rfl) ?_
      refine (lits10c_of IV.out.nd (lits_nT false l) (by have := H12.out; omega)).mono ?_
      rintro e w801 ⟨A8, c8, rfl, g8, hb⟩
      refine ⟨_, rfl, ?_⟩
      have G8 := Aside0.mk g8; clear g8; have n0 := Aside0.mk (IV.out.step hb); clear IV hb; have IV := n0; clear n0
      refine hK.out _ _ (IV.out.S) (fun hHeld => ?_)
      clear hK K
      refine norm_ (a' := ?_) ?_ ?_
      rotate_left
      · show Act.put _ (some 53) _ = _
        simp only [Act.put, List.setIfInBounds_toArray, List.set_cons_zero, List.set_cons_succ, i64_w, i32_w]
        rfl
      refine one_ (i := 3) (N := some 55) #[true, true, true, true, false, false] rfl rfl (one_of (md := .any) (ops := opsOf Try.f3 13) F3tab13 (by kernel_rfl)) (by decide) (fun K hK => ?_)
      refine goes_ Try.func13 (by kernel_rfl) rfl #[.agg #[.int .i64 (kdL false l), .string (⟨#[]⟩ : ByteArray), .slice A2 (LL false l).length c2, .bool false, .bool false, .slice none 0 0, .slice none 0 0]] (by rfl) rfl rfl (by (try simp only [List.map_toArray, List.map_cons, List.map_nil]); first | done | rfl) ?_
      refine (nts10c_of IV.out.nd (fin_nT false l H12.out) (nts_nT false l) (by have := H12.out; omega)).mono ?_
      rintro e w802 ⟨A9, c9, rfl, g9, hb⟩
      refine ⟨_, rfl, ?_⟩
      have G9 := Aside0.mk g9; have m8 := Aside0.mk (Kd.C_below G8.out hb); clear g9 G8; have G8 := m8; clear m8; have n0 := Aside0.mk (IV.out.step hb); clear IV hb; have IV := n0; clear n0
      refine hK.out _ _ (IV.out.S) (fun hHeld => ?_)
      clear hK K
      refine norm_ (a' := ?_) ?_ ?_
      rotate_left
      · show Act.put _ (some 55) _ = _
        simp only [Act.put, List.setIfInBounds_toArray, List.set_cons_zero, List.set_cons_succ, i64_w, i32_w]
        rfl
      refine pure_ (i := 4) (N := some 8) (v := ?_) (a' := ?_) #[true, true, true, true, true, false] rfl rfl (any_of (md := .any) (ops := opsOf Try.f3 13) F3tab13 (by kernel_rfl)) (fun _ _ _ h => h) (Or.inl ⟨by rfl, ?_⟩) ?_ ?_
      rotate_left
      · intro w'
        go_simp
        with_reducible rfl
      rotate_left
      · simp only [Act.put, List.setIfInBounds_toArray, List.set_cons_zero, List.set_cons_succ, i64_w, i32_w]
        rfl
      refine pure_ (i := 5) (N := some 9) (v := ?_) (a' := ?_) #[true, true, true, true, true, true] rfl rfl (any_of (md := .any) (ops := opsOf Try.f3 13) F3tab13 (by kernel_rfl)) (fun _ _ _ h => h) (Or.inl ⟨by rfl, ?_⟩) ?_ ?_
      rotate_left
      · intro w'
        go_simp
        with_reducible rfl
      rotate_left
      · simp only [Act.put, List.setIfInBounds_toArray, List.set_cons_zero, List.set_cons_succ, i64_w, i32_w]
        rfl
      refine done_ (done_of (md := .any) (ops := opsOf Try.f3 13) F3tab13 (by kernel_rfl)) ?_
      clear hHeld
      go_wp2_with fail
      go_loopg [10] l.length (fun k' v10 wr => ∃ i : Nat, v10 = .int .i64 i ∧ i ≤ l.length ∧ Aside0 (k' + i = l.length) ∧ Aside0 (IvL w wr gn (kdL false l) (LL false l) A2 c2) ∧ Aside0 (Kd.C Kd.string wr A8 l.length l) ∧ Aside0 (Kd.C Kd.string wr A9 (l.map pcB).length (l.map pcB)))
      case atStart => exact ⟨0, rfl, Nat.zero_le _, ⟨rfl⟩, IV, G8, G9⟩
      case round =>
        clear IV G8 G9
        obtain ⟨i, rfl, hi, HK, IV, G8, G9⟩ := hrel
        by_cases hlt : i < l.length
        · obtain ⟨ad, e0, tx⟩ := text_at HL.out i hlt
          obtain ⟨ad8, e8, t8⟩ := text_at G8.out i hlt
          obtain ⟨ad9, e9, t9⟩ := text_at G9.out i (by rw [List.length_map]; exact hlt)
          subst e8 e9
          cases e0
          have q1 := (IV.out.hb.cell (World.block_lt_of_cell? w _ tx)).trans tx
          rw [List.getElem_map] at t9
          have CAT : Aside0 (¬ (9223372036854775807 < 1 + l[i].size)) := ⟨by have := HZ.out i hlt (Nat.zero_le _); omega⟩
          clear tx
          obtain ⟨y, hy⟩ : ∃ y, y = l[i] := ⟨_, rfl⟩
          rw [← hy] at q1 t8 t9 CAT
          clear hy
          have hi0 : 0 ≤ (i : Int) := by omega
          have hi1 : (i : Int) ≤ 12 := by have := H12.out; omega
          have HS9 := Aside0.mk (And.intro q1 (And.intro t8 t9))
          clear q1 t8 t9
          go_wp2_with fail
          have n0 := Aside0.mk (IV.out.step (below_drew1 (Below.refl _ _)))
          have n1 := Aside0.mk (Kd.C_below G8.out (below_drew1 (Below.refl _ _)))
          have n2 := Aside0.mk (Kd.C_below G9.out (below_drew1 (Below.refl _ _)))
          clear IV G8 G9
          have IV := n0
          have G8 := n1
          have G9 := n2
          clear n0 n1 n2
          refine start_ (n := 21) (S := fun w' => w'.cell? (ad.add i) = some (.string y) ∧ w'.cell? (ad8.add i) = some (.string y) ∧ w'.cell? (ad9.add i) = some (.string ((⟨#[37]⟩ : ByteArray) ++ y))) (ds := []) #[false, false, false, false, false, false, false, false, false, false, false, false, false, false, false, false, false, false, false, false, false] (by kernel_rfl) rfl rfl (HS9.out) (fun hHeld => ?_)
          clear HS9
          generalize World.drew _ = w900 at IV G8 G9 hHeld ⊢
          refine pure_ (i := 0) (N := some 74) (v := ?_) (a' := ?_) #[true, false, false, false, false, false, false, false, false, false, false, false, false, false, false, false, false, false, false, false, false] rfl rfl (any_of (md := .any) (ops := opsOf Try.f3 19) F3tab19 (by kernel_rfl)) (fun _ _ _ h => h) (Or.inl ⟨by rfl, ?_⟩) ?_ ?_
          rotate_left
          · intro w'
            go_simp
            with_reducible rfl
          rotate_left
          · simp only [Act.put, List.setIfInBounds_toArray, List.set_cons_zero, List.set_cons_succ, i64_w, i32_w]
            rfl
          refine pure_ (i := 1) (N := some 75) (v := ?_) (a' := ?_) #[true, true, false, false, false, false, false, false, false, false, false, false, false, false, false, false, false, false, false, false, false] rfl rfl (any_of (md := .any) (ops := opsOf Try.f3 19) F3tab19 (by kernel_rfl)) (fun _ _ _ h => h) (Or.inl ⟨by rfl, ?_⟩) ?_ ?_
          rotate_left
          · intro w'
            go_simp
            with_reducible rfl
          rotate_left
          · simp only [Act.put, List.setIfInBounds_toArray, List.set_cons_zero, List.set_cons_succ, i64_w, i32_w]
            rfl
          refine pure_ (i := 2) (N := some 76) (v := ?_) (a' := ?_) #[true, true, true, false, false, false, false, false, false, false, false, false, false, false, false, false, false, false, false, false, false] rfl rfl (any_of (md := .any) (ops := opsOf Try.f3 19) F3tab19 (by kernel_rfl)) (fun _ _ _ h => h) (Or.inl ⟨by rfl, ?_⟩) ?_ ?_
          rotate_left
          · intro w'
            go_simp
            with_reducible rfl
          rotate_left
          · simp only [Act.put, List.setIfInBounds_toArray, List.set_cons_zero, List.set_cons_succ, i64_w, i32_w]
            rfl
          refine take_ (i := 3) (N := some 77) (v := ?_) (a' := ?_) #[true, true, true, true, false, false, false, false, false, false, false, false, false, false, false, false, false, false, false, false, false] rfl rfl (take_of (md := .any) (ops := opsOf Try.f3 19) F3tab19 (by kernel_rfl)) (fun _ _ _ h => h) (Or.inl ⟨by rfl, ?_⟩) hHeld ?_ ?_
          rotate_left
          · rintro w' ⟨s0, s1, s2⟩
            go_simp
            with_reducible rfl
          rotate_left
          · simp only [Act.put, List.setIfInBounds_toArray, List.set_cons_zero, List.set_cons_succ, i64_w, i32_w]
            rfl
          refine pure_ (i := 4) (N := some 78) (v := ?_) (a' := ?_) #[true, true, true, true, true, false, false, false, false, false, false, false, false, false, false, false, false, false, false, false, false] rfl rfl (any_of (md := .any) (ops := opsOf Try.f3 19) F3tab19 (by kernel_rfl)) (fun _ _ _ h => h) (Or.inl ⟨by rfl, ?_⟩) ?_ ?_
          rotate_left
          · intro w'
            go_simp
            with_reducible rfl
          rotate_left
          · simp only [Act.put, List.setIfInBounds_toArray, List.set_cons_zero, List.set_cons_succ, i64_w, i32_w]
            rfl
          refine pure_ (i := 5) (N := some 79) (v := ?_) (a' := ?_) #[true, true, true, true, true, true, false, false, false, false, false, false, false, false, false, false, false, false, false, false, false] rfl rfl (any_of (md := .any) (ops := opsOf Try.f3 19) F3tab19 (by kernel_rfl)) (fun _ _ _ h => h) (Or.inl ⟨by rfl, ?_⟩) ?_ ?_
          rotate_left
          · intro w'
            go_simp
            with_reducible rfl
          rotate_left
          · simp only [Act.put, List.setIfInBounds_toArray, List.set_cons_zero, List.set_cons_succ, i64_w, i32_w]
            rfl
          refine pure_ (i := 6) (N := some 80) (v := ?_) (a' := ?_) #[true, true, true, true, true, true, true, false, false, false, false, false, false, false, false, false, false, false, false, false, false] rfl rfl (any_of (md := .any) (ops := opsOf Try.f3 19) F3tab19 (by kernel_rfl)) (fun _ _ _ h => h) (Or.inl ⟨by rfl, ?_⟩) ?_ ?_
          rotate_left
          · intro w'
            go_simp
            with_reducible rfl
          rotate_left
          · simp only [Act.put, List.setIfInBounds_toArray, List.set_cons_zero, List.set_cons_succ, i64_w, i32_w]
            rfl
          refine take_ (i := 7) (N := some 81) (v := ?_) (a' := ?_) #[true, true, true, true, true, true, true, true, false, false, false, false, false, false, false, false, false, false, false, false, false] rfl rfl (take_of (md := .any) (ops := opsOf Try.f3 19) F3tab19 (by kernel_rfl)) (fun _ _ _ h => h) (Or.inl ⟨by rfl, ?_⟩) hHeld ?_ ?_
          rotate_left
          · rintro w' ⟨s0, s1, s2⟩
            go_simp
            with_reducible rfl
          rotate_left
          · simp only [Act.put, List.setIfInBounds_toArray, List.set_cons_zero, List.set_cons_succ, i64_w, i32_w]
            rfl
          refine pure_ (i := 8) (N := some 82) (v := ?_) (a' := ?_) #[true, true, true, true, true, true, true, true, true, false, false, false, false, false, false, false, false, false, false, false, false] rfl rfl (any_of (md := .any) (ops := opsOf Try.f3 19) F3tab19 (by kernel_rfl)) (fun _ _ _ h => h) (Or.inl ⟨by rfl, ?_⟩) ?_ ?_
          rotate_left
          · intro w'
            go_simp
            with_reducible rfl
          rotate_left
          · simp only [Act.put, List.setIfInBounds_toArray, List.set_cons_zero, List.set_cons_succ, i64_w, i32_w]
            rfl
          refine pure_ (i := 9) (N := some 83) (v := ?_) (a' := ?_) #[true, true, true, true, true, true, true, true, true, true, false, false, false, false, false, false, false, false, false, false, false] rfl rfl (any_of (md := .any) (ops := opsOf Try.f3 19) F3tab19 (by kernel_rfl)) (fun _ _ _ h => h) (Or.inl ⟨by rfl, ?_⟩) ?_ ?_
          rotate_left
          · intro w'
            go_simp
            with_reducible rfl
          rotate_left
          · simp only [Act.put, List.setIfInBounds_toArray, List.set_cons_zero, List.set_cons_succ, i64_w, i32_w]
            rfl
          refine pure_ (i := 10) (N := some 84) (v := ?_) (a' := ?_) #[true, true, true, true, true, true, true, true, true, true, true, false, false, false, false, false, false, false, false, false, false] rfl rfl (any_of (md := .any) (ops := opsOf Try.f3 19) F3tab19 (by kernel_rfl)) (fun _ _ _ h => h) (Or.inl ⟨by rfl, ?_⟩) ?_ ?_
          rotate_left
          · intro w'
            go_simp
            with_reducible rfl
          rotate_left
          · simp only [Act.put, List.setIfInBounds_toArray, List.set_cons_zero, List.set_cons_succ, i64_w, i32_w]
            rfl
          refine pure_ (i := 11) (N := some 85) (v := ?_) (a' := ?_) #[true, true, true, true, true, true, true, true, true, true, true, true, false, false, false, false, false, false, false, false, false] rfl rfl (any_of (md := .any) (ops := opsOf Try.f3 19) F3tab19 (by kernel_rfl)) (fun _ _ _ h => h) (Or.inl ⟨by rfl, ?_⟩) ?_ ?_
          rotate_left
          · intro w'
            go_simp
            with_reducible rfl
          rotate_left
          · simp only [Act.put, List.setIfInBounds_toArray, List.set_cons_zero, List.set_cons_succ, i64_w, i32_w]
            rfl
          refine pure_ (i := 12) (N := some 86) (v := ?_) (a' := ?_) #[true, true, true, true, true, true, true, true, true, true, true, true, true, false, false, false, false, false, false, false, false] rfl rfl (any_of (md := .any) (ops := opsOf Try.f3 19) F3tab19 (by kernel_rfl)) (fun _ _ _ h => h) (Or.inl ⟨by rfl, ?_⟩) ?_ ?_
          rotate_left
          · intro w'
            go_simp
            with_reducible rfl
          rotate_left
          · simp only [Act.put, List.setIfInBounds_toArray, List.set_cons_zero, List.set_cons_succ, i64_w, i32_w]
            rfl
          refine take_ (i := 13) (N := some 87) (v := ?_) (a' := ?_) #[true, true, true, true, true, true, true, true, true, true, true, true, true, true, false, false, false, false, false, false, false] rfl rfl (take_of (md := .any) (ops := opsOf Try.f3 19) F3tab19 (by kernel_rfl)) (fun _ _ _ h => h) (Or.inl ⟨by rfl, ?_⟩) hHeld ?_ ?_
          rotate_left
          · rintro w' ⟨s0, s1, s2⟩
            go_simp
            with_reducible rfl
          rotate_left
          · simp only [Act.put, List.setIfInBounds_toArray, List.set_cons_zero, List.set_cons_succ, i64_w, i32_w]
            rfl
          refine pure_ (i := 14) (N := some 88) (v := ?_) (a' := ?_) #[true, true, true, true, true, true, true, true, true, true, true, true, true, true, true, false, false, false, false, false, false] rfl rfl (any_of (md := .any) (ops := opsOf Try.f3 19) F3tab19 (by kernel_rfl)) (fun _ _ _ h => h) (Or.inl ⟨by rfl, ?_⟩) ?_ ?_
          rotate_left
          · intro w'
            go_simp
            with_reducible rfl
          rotate_left
          · simp only [Act.put, List.setIfInBounds_toArray, List.set_cons_zero, List.set_cons_succ, i64_w, i32_w]
            rfl
          refine pure_ (i := 15) (N := some 89) (v := ?_) (a' := ?_) #[true, true, true, true, true, true, true, true, true, true, true, true, true, true, true, true, false, false, false, false, false] rfl rfl (any_of (md := .any) (ops := opsOf Try.f3 19) F3tab19 (by kernel_rfl)) (fun _ _ _ h => h) (Or.inl ⟨by rfl, ?_⟩) ?_ ?_
          rotate_left
          · intro w'
            go_simp
            with_reducible rfl
          rotate_left
          · simp only [Act.put, List.setIfInBounds_toArray, List.set_cons_zero, List.set_cons_succ, i64_w, i32_w]
            rfl
          refine pure_ (i := 16) (N := some 90) (v := ?_) (a' := ?_) #[true, true, true, true, true, true, true, true, true, true, true, true, true, true, true, true, true, false, false, false, false] rfl rfl (any_of (md := .any) (ops := opsOf Try.f3 19) F3tab19 (by kernel_rfl)) (fun _ _ _ h => h) (Or.inl ⟨by rfl, ?_⟩) ?_ ?_
          rotate_left
          · intro w'
            go_simp
            with_reducible rfl
          rotate_left
          · simp only [Act.put, List.setIfInBounds_toArray, List.set_cons_zero, List.set_cons_succ, i64_w, i32_w]
            rfl
          refine take_ (i := 17) (N := some 91) (v := ?_) (a' := ?_) #[true, true, true, true, true, true, true, true, true, true, true, true, true, true, true, true, true, true, false, false, false] rfl rfl (take_of (md := .any) (ops := opsOf Try.f3 19) F3tab19 (by kernel_rfl)) (fun _ _ _ h => h) (Or.inl ⟨by rfl, ?_⟩) hHeld ?_ ?_
          rotate_left
          · rintro w' ⟨s0, s1, s2⟩
            go_simp
            with_reducible rfl
          rotate_left
          · simp only [Act.put, List.setIfInBounds_toArray, List.set_cons_zero, List.set_cons_succ, i64_w, i32_w]
            rfl
          refine pure_ (i := 18) (N := some 92) (v := ?_) (a' := ?_) #[true, true, true, true, true, true, true, true, true, true, true, true, true, true, true, true, true, true, true, false, false] rfl rfl (any_of (md := .any) (ops := opsOf Try.f3 19) F3tab19 (by kernel_rfl)) (fun _ _ _ h => h) (Or.inl ⟨by rfl, ?_⟩) ?_ ?_
          rotate_left
          · intro w'
            go_simp
            rw [if_neg CAT.out]
          rotate_left
          · simp only [Act.put, List.setIfInBounds_toArray, List.set_cons_zero, List.set_cons_succ, i64_w, i32_w]
            rfl
          refine pure_ (i := 19) (N := some 93) (v := ?_) (a' := ?_) #[true, true, true, true, true, true, true, true, true, true, true, true, true, true, true, true, true, true, true, true, false] rfl rfl (any_of (md := .any) (ops := opsOf Try.f3 19) F3tab19 (by kernel_rfl)) (fun _ _ _ h => h) (Or.inl ⟨by rfl, ?_⟩) ?_ ?_
          rotate_left
          · intro w'
            go_simp
            with_reducible rfl
          rotate_left
          · simp only [Act.put, List.setIfInBounds_toArray, List.set_cons_zero, List.set_cons_succ, i64_w, i32_w]
            rfl
          refine pure_ (i := 20) (N := some 94) (v := ?_) (a' := ?_) #[true, true, true, true, true, true, true, true, true, true, true, true, true, true, true, true, true, true, true, true, true] rfl rfl (any_of (md := .any) (ops := opsOf Try.f3 19) F3tab19 (by kernel_rfl)) (fun _ _ _ h => h) (Or.inl ⟨by rfl, ?_⟩) ?_ ?_
          rotate_left
          · intro w'
            go_simp
            with_reducible rfl
          rotate_left
          · simp only [Act.put, List.setIfInBounds_toArray, List.set_cons_zero, List.set_cons_succ, i64_w, i32_w]
            rfl
          refine done_ (done_of (md := .any) (ops := opsOf Try.f3 19) F3tab19 (by kernel_rfl)) ?_
          clear hHeld
          go_wp2_with fail
          go_roundg (l.length - (i + 1))
          case measure => have := HK.out; omega
          case rel => exact ⟨i + 1, by simp, by omega, ⟨by have := HK.out; omega⟩, IV, G8, G9⟩
        · obtain rfl : i = l.length := by omega
          go_wp2_with (first | ((with_reducible refine gate_dst (N := 95) rfl ?_); refine goesL_ (some 95) rfl rfl Try.func11 (by kernel_rfl) rfl #[] rfl (by (try simp only [List.map_toArray, List.map_cons, List.map_nil]); first | done | rfl) ?_; (refine (galleylaw10_told.calls true _ rfl).mono ?_); (rintro e w951 ⟨rfl, hb⟩; refine ⟨_, rfl, ?_⟩; have n0 := Aside0.mk (IV.out.step hb); clear IV hb; have IV := n0; clear n0)))
          go_ret
          exact ⟨rfl, IV.out.hb⟩
theorem TreeLits_walk {w : World} (l : List ByteArray) (A : Option Addr) (c : Nat) (hc : l.length ≤ c) (hl : Kd.C Kd.string w A l.length l) (b : Bool) : Calls Try.prog 3 #[.slice A l.length c, .bool b] w fun e w' => e = .returned (.bool true) ∧ Below w.heap.size w w' := by
  cases h6 : decide (12 < (l.length : Int))
  · have hl12 : l.length ≤ 12 := by
      have : ¬ (12 < (l.length : Int)) := of_decide_eq_false h6
      omega
    cases b
    · exact lits_row l A c w hl hc h6 hl12
    · exact lits_nest l A c w hl hc h6 hl12
  · exact lits_1 b l A c w hl hc h6
end Go.Proofs.Ytjlnlonioknkhaa.PA

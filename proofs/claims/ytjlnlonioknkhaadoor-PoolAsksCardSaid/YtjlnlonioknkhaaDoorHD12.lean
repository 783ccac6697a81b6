/- PoolAsks: the walk. -/
import Derived.Test.YtjlnlonioknkhaaDoorHD11
namespace Go.Proofs.YtjlnlonioknkhaaDoor.PL
open Go.RowKit Go.Proofs.YtjlnlonioknkhaaDoorW.PrintWords Go.Proofs.YtjlnlonioknkhaaDoorW.PrintLast Go.Proofs.YtjlnlonioknkhaaDoorW.PrintMore
set_option linter.unusedVariables false
set_option linter.unusedSimpArgs false

theorem F3tab12 : rtab .any (opsOf Tryd.f3 12) = (true, [([], []), ([], []), ([], []), ([1, 2], [1, 2]), ([3], [3]), ([0, 4], [0, 4]), ([], []), ([], []), ([], []), ([7, 8], [7, 8]), ([9], [9]), ([6, 10, 5], [6, 10]), ([5, 11], [5, 11]), ([12, 11], [12]), ([13], [13]), ([14, 13, 13], [13, 14]), ([13], [13]), ([16, 13], [13, 16]), ([17, 13], [13, 17]), ([18, 13], [13, 18]), ([19, 13], [13, 19]), ([15, 20, 13], [13, 15, 20]), ([13, 21], [13, 21])]) := by kernel_rfl
theorem F3tab17 : rtab .any (opsOf Tryd.f3 17) = (true, [([], []), ([], []), ([1], [1]), ([0, 2], [0, 2]), ([], []), ([4], [4]), ([5], [5]), ([6], [6]), ([], []), ([7, 8], [7, 8]), ([9], [9]), ([10, 3], [10]), ([3, 11], [3, 11]), ([12, 11], [12]), ([13], [13]), ([13], [13]), ([15, 13], [13, 15]), ([16, 13], [13, 16]), ([17, 13], [13, 17]), ([13], [13]), ([18, 19, 13], [13, 18, 19]), ([20, 13], [13, 20]), ([14, 21, 13, 13], [13, 14, 21]), ([13], [13]), ([23, 13], [13, 23]), ([22, 24, 13], [13, 22, 24]), ([13, 25], [13, 25])]) := by kernel_rfl
theorem F3tab19 : rtab .any (opsOf Tryd.f3 19) = (true, [([], []), ([0, 0], [0]), ([1], [1]), ([2, 1, 1], [1, 2]), ([3, 1], [1, 3]), ([1, 4], [1, 4]), ([5, 3], [5]), ([6], [6]), ([6], [6]), ([8, 6], [6, 8]), ([9, 6], [6, 9]), ([10, 6], [6, 10]), ([11, 6], [6, 11]), ([12, 6], [6, 12]), ([7, 13, 6, 6], [6, 7, 13]), ([14, 6], [6, 14]), ([6, 15], [6, 15]), ([16, 14], [16]), ([17], [17]), ([18, 17, 17], [17, 18]), ([17], [17]), ([20, 17], [17, 20]), ([21, 17], [17, 21]), ([22, 17], [17, 22]), ([23, 17], [17, 23]), ([19, 24, 17], [17, 19, 24]), ([17, 25], [17, 25]), ([26, 19, 0, 1, 2, 3, 4, 5, 6, 7, 8, 9, 10, 11, 12, 13, 14, 15, 16, 17, 18, 19, 20, 21, 22, 23, 24, 25, 26], [26])]) := by kernel_rfl
set_option maxHeartbeats 2000000 in
theorem asks_long (l : List S32) (A : Option Addr) (c : Nat) (w : World) (hl : Kd.C k32 w A l.length l) (hc : l.length ≤ c) (hT : Tab w.heap.size w) (h6 : decide (6 < (l.length : Int)) = true) : Calls Tryd.prog 3 #[.slice A l.length c] w fun e w' => e = .returned (.bool true) ∧ Below w.heap.size w w' := by
  have hu32 := Tryd.underlying32
  have hu28 := Tryd.underlying28
  have HL := Aside0.mk hl
  have HC := Aside0.mk hc
  have HT := Aside0.mk hT
  clear hl hc hT
  go_enter Tryd.func3, Tryd.ntmps3
  go_wp2_with (first | ((with_reducible refine gate_dst (N := 7) rfl ?_); refine goesL_ (some 7) rfl rfl Tryd.func6 (by kernel_rfl) rfl #[] rfl (by (try simp only [List.map_toArray, List.map_cons, List.map_nil]); first | done | rfl) ?_; (refine (new_law w.heap.size w (Nat.le_refl _)).mono ?_); (rintro e w9 ⟨ga, gm, rfl, hp, hb⟩; refine ⟨_, rfl, ?_⟩; have PV := Aside0.mk hp; have HB := Aside0.mk hb; clear hp hb)) | ((with_reducible refine gate_dst (N := 13) rfl ?_); refine goesL_ (some 13) rfl rfl Tryd.func7 (by kernel_rfl) rfl #[] rfl (by (try simp only [List.map_toArray, List.map_cons, List.map_nil]); first | done | rfl) ?_; (refine (told_calls _ ((HT.out.on HB.out).mono HB.out.size)).mono ?_); (rintro e w9 ⟨rfl, hb⟩; refine ⟨_, rfl, ?_⟩; have n1 := Aside0.mk (below_step HB.out hb); clear HB hb; have HB := n1; clear n1)))
  go_ret
  exact ⟨rfl, HB.out⟩
def r12S (gb : Nat) (A2 : Option Addr) (n c2 : Nat) (w' : World) : Prop := w'.cell? ⟨gb, 0, none⟩ = some (.slice A2 n c2) ∧ True
set_option maxHeartbeats 8000000 in
set_option maxRecDepth 100000 in
theorem asks_main (l : List S32) (A : Option Addr) (c : Nat) (w : World) (hl : Kd.C k32 w A l.length l) (hc : l.length ≤ c) (hT : Tab w.heap.size w) (oz : ∀ x ∈ l, szT x) (h6 : decide (6 < (l.length : Int)) = false) (hl6 : l.length ≤ 6) : Calls Tryd.prog 3 #[.slice A l.length c] w fun e w' => e = .returned (.bool true) ∧ Below w.heap.size w w' := by
  have hu32 := Tryd.underlying32
  have hu28 := Tryd.underlying28
  have HL := Aside0.mk hl
  have HC := Aside0.mk hc
  have HT := Aside0.mk hT
  clear hl hc hT
  have OZ := Aside0.mk oz
  have L6 := Aside0.mk hl6
  have hlb : (l.length : Int) ≤ 6 := by omega
  clear oz hl6
  go_enter Tryd.func3, Tryd.ntmps3
  go_wp2_with (first | ((with_reducible refine gate_dst (N := 7) rfl ?_); refine goesL_ (some 7) rfl rfl Tryd.func6 (by kernel_rfl) rfl #[] rfl (by (try simp only [List.map_toArray, List.map_cons, List.map_nil]); first | done | rfl) ?_; (refine (new_law w.heap.size w (Nat.le_refl _)).mono ?_); (rintro e w9 ⟨ga, gm, rfl, hp, hb⟩; refine ⟨_, rfl, ?_⟩; have PV := Aside0.mk hp; have HB := Aside0.mk hb; clear hp hb)) | ((with_reducible refine gate_dst (N := 15) rfl ?_); (try (refine gate_guard (by rfl) ?_; dsimp only)); refine box_event ?hg (N := 15) ?hd (cs := #[.slice none 0 0]) (t := 28) ?hr ?_; (case hd => rfl); (case hg => rfl); (case hr => first | (go_simp; done) | (go_simp; rfl)); intro gb hg w6 hbox hb; have AV := Aside0.mk (AskW.start PV.out hb hbox (Nat.le_of_eq hg.symm)); have n1 := Aside0.mk (below_step HB.out hb); clear PV HB hb hg hbox; have HB := n1; clear n1))
  go_loopg [5] l.length (fun k' v5 wr => ∃ (i : Nat) (all1 : List S32) (v1 : Value), v5 = .int .i64 i ∧ i ≤ l.length ∧ Aside0 (k' + i = l.length) ∧ Aside0 (refL (l.take i) [] = all1) ∧ Aside0 (Goods (120 * i) all1) ∧ Aside0 (AskW wr w.heap.size ga gm gb v1 all1 all1) ∧ Aside0 (Below w.heap.size w wr))
  case atStart => exact ⟨0, [], .slice none 0 0, rfl, Nat.zero_le _, ⟨rfl⟩, ⟨rfl⟩, ⟨Goods.nil⟩, AV, HB⟩
  case round =>
    clear AV HB
    obtain ⟨i, all1, v1, rfl, hi, HK, PL, GD, AV, HB⟩ := hrel
    by_cases hlt : i < l.length
    · obtain ⟨y, hy⟩ : ∃ y, y = l[i] := ⟨_, rfl⟩
      have YM : Aside0 (y ∈ l) := ⟨by rw [hy]; exact List.getElem_mem hlt⟩
      obtain ⟨ad, Y2, e2, Y5, e5, Y6, e6, eA, ny, se⟩ := elemS HL.out i y (by rw [hy, List.getElem?_eq_getElem hlt])
      subst eA
      have NX := Aside0.mk ny
      have SE0 := Aside0.mk se
      have TK := Aside0.mk (refL_take l i hlt [])
      rw [PL.out, ← hy] at TK
      clear ny se hy
      obtain ⟨hy0, hy1, hy2, hy3, hy4, hy5, hy6⟩ := SE0.out.below HB.out
      by_cases fx : fewV y 40 ≤ 400
      · have EX := Aside0.mk (decide_eq_true fx)
        have FX := Aside0.mk (few_fin fx)
        have OK := Aside0.mk (okT_of_few (OZ.out y YM.out) fx)
        have PN := Aside0.mk (few_small y 40 fx).1
        have PB : Aside0 ((pre y).length ≤ 400) := ⟨by have := PN.out; omega⟩
        obtain ⟨cz, hcz⟩ : ∃ z : Int, wrap64 (pre y).length = z := ⟨_, rfl⟩
        have CZ := Aside0.mk hcz
        have CZ2 : Aside0 (cz = ((pre y).length : Int)) := ⟨by rw [← hcz, wrap_small _ (by omega) (by have := PB.out; omega)]⟩
        clear fx hcz
        by_cases cx : (pre y).length ≤ 120
        · have t120 : decide (120 < cz) = false := decide_eq_false (by have := CZ2.out; omega)
          have CX := Aside0.mk cx
          clear cx
          go_upto_region 12 with (first | ((with_reducible refine gate_dst (N := 26) rfl ?_); refine goesL_ (some 26) rfl rfl Tryd.func8 (by kernel_rfl) rfl #[.agg #[.int .i64 y.f0, .string y.f1, .slice Y2 y.f2.length e2, .bool y.f3, .bool y.f4, .slice Y5 y.f5.length e5, .slice Y6 y.f6.length e6]] rfl (by (try simp only [List.map_toArray, List.map_cons, List.map_nil]); first | done | rfl) ?_; (refine (few10_of true (NX.out.old HB.out).nd EX.out).mono ?_); (rintro e w9 ⟨rfl, hb⟩; refine ⟨_, rfl, ?_⟩; have n0 := Aside0.mk (AV.out.below hb); have n1 := Aside0.mk (below_step HB.out hb); clear AV HB hb; clear hy0 hy1 hy2 hy3 hy4 hy5 hy6; have AV := n0; have HB := n1; clear n0 n1; obtain ⟨hy0, hy1, hy2, hy3, hy4, hy5, hy6⟩ := SE0.out.below HB.out)) | ((with_reducible refine gate_dst (N := 33) rfl ?_); (refine gate_guard (by rfl) ?_; dsimp only); refine goesL_ (some 33) rfl rfl Tryd.func9 (by kernel_rfl) rfl #[.agg #[.int .i64 y.f0, .string y.f1, .slice Y2 y.f2.length e2, .bool y.f3, .bool y.f4, .slice Y5 y.f5.length e5, .slice Y6 y.f6.length e6]] rfl (by (try simp only [List.map_toArray, List.map_cons, List.map_nil]); first | done | rfl) ?_; (refine (cnt9_of cz (NX.out.old HB.out).nd FX.out CZ.out).mono ?_); (rintro e w9 ⟨rfl, hb⟩; refine ⟨_, rfl, ?_⟩; have n0 := Aside0.mk (AV.out.below hb); have n1 := Aside0.mk (below_step HB.out hb); clear AV HB hb; clear hy0 hy1 hy2 hy3 hy4 hy5 hy6; have AV := n0; have HB := n1; clear n0 n1; obtain ⟨hy0, hy1, hy2, hy3, hy4, hy5, hy6⟩ := SE0.out.below HB.out)))
          clear hy0 hy1 hy2 hy3 hy4 hy5 hy6
          obtain ⟨⟨n, all2⟩, hpv⟩ : ∃ r, refV y all1 = r := ⟨_, rfl⟩
          have PV := Aside0.mk hpv
          rw [hpv] at TK
          have L1 : Aside0 (all1.length + (pre y).length ≤ 1000000) := ⟨by have := GD.out.len; have := CX.out; have := L6.out; omega⟩
          have FA : Aside0 (∀ r ∈ all1, Fin32 r) := ⟨fun r hr => (GD.out.each r hr).1⟩
          have GD2 : Aside0 (Goods (120 * (i + 1)) all2) := ⟨by
            have h := GD.out.put FX.out OK.out (by have := CX.out; omega)
            rw [hpv] at h
            exact ⟨h.each, by have h2 : all2.length ≤ 120 * i + (pre y).length := h.len; have := CX.out; omega⟩⟩
          obtain ⟨nz, hnz⟩ : ∃ z : Int, z = (n : Int) := ⟨_, rfl⟩
          have HNZ := Aside0.mk hnz
          clear hpv hnz
          have n0 := Aside0.mk (AV.out.below (below_drew1 (Below.refl _ _)))
          have n1 := Aside0.mk (below_step HB.out (below_drew1 (Below.refl _ _)))
          clear AV HB
          have AV := n0
          have HB := n1
          clear n0 n1
          refine start_ (n := 23) (S := SE ad i y Y2 e2 Y5 e5 Y6 e6) (ds := [11, 12, 13, 14, 15, 16, 17, 18, 19, 20, 21, 22]) #[false, false, false, false, false, false, false, false, false, false, false, false, false, false, false, false, false, false, false, false, false, false, false] (by kernel_rfl) rfl rfl ((SE0.out.below HB.out)) (fun hHeld => ?_)
          generalize World.drew _ = w500 at AV HB hHeld ⊢
          refine pure_ (i := 0) (N := some 37) (v := ?_) (a' := ?_) #[true, false, false, false, false, false, false, false, false, false, false, false, false, false, false, false, false, false, false, false, false, false, false] rfl rfl (any_of (md := .any) (ops := opsOf Tryd.f3 12) F3tab12 (by kernel_rfl)) (fun _ _ _ h => h) (Or.inl ⟨by rfl, ?_⟩) ?_ ?_
          rotate_left
          · intro w'
            go_simp
            with_reducible rfl
          rotate_left
          · simp only [Act.put, List.setIfInBounds_toArray, List.set_cons_zero, List.set_cons_succ, i64_w, i32_w]
            rfl
          refine pure_ (i := 1) (N := some 38) (v := ?_) (a' := ?_) #[true, true, false, false, false, false, false, false, false, false, false, false, false, false, false, false, false, false, false, false, false, false, false] rfl rfl (any_of (md := .any) (ops := opsOf Tryd.f3 12) F3tab12 (by kernel_rfl)) (fun _ _ _ h => h) (Or.inl ⟨by rfl, ?_⟩) ?_ ?_
          rotate_left
          · intro w'
            go_simp
            with_reducible rfl
          rotate_left
          · simp only [Act.put, List.setIfInBounds_toArray, List.set_cons_zero, List.set_cons_succ, i64_w, i32_w]
            rfl
          refine pure_ (i := 2) (N := some 39) (v := ?_) (a' := ?_) #[true, true, true, false, false, false, false, false, false, false, false, false, false, false, false, false, false, false, false, false, false, false, false] rfl rfl (any_of (md := .any) (ops := opsOf Tryd.f3 12) F3tab12 (by kernel_rfl)) (fun _ _ _ h => h) (Or.inl ⟨by rfl, ?_⟩) ?_ ?_
          rotate_left
          · intro w'
            go_simp
            with_reducible rfl
          rotate_left
          · simp only [Act.put, List.setIfInBounds_toArray, List.set_cons_zero, List.set_cons_succ, i64_w, i32_w]
            rfl
          refine pure_ (i := 3) (N := some 40) (v := ?_) (a' := ?_) #[true, true, true, true, false, false, false, false, false, false, false, false, false, false, false, false, false, false, false, false, false, false, false] rfl rfl (any_of (md := .any) (ops := opsOf Tryd.f3 12) F3tab12 (by kernel_rfl)) (fun _ _ _ h => h) (Or.inl ⟨by rfl, ?_⟩) ?_ ?_
          rotate_left
          · intro w'
            go_simp
            with_reducible rfl
          rotate_left
          · simp only [Act.put, List.setIfInBounds_toArray, List.set_cons_zero, List.set_cons_succ, i64_w, i32_w]
            rfl
          refine take_ (i := 4) (N := some 41) (v := ?_) (a' := ?_) #[true, true, true, true, true, false, false, false, false, false, false, false, false, false, false, false, false, false, false, false, false, false, false] rfl rfl (take_of (md := .any) (ops := opsOf Tryd.f3 12) F3tab12 (by kernel_rfl)) (fun _ _ _ h => h) (Or.inl ⟨by rfl, ?_⟩) hHeld ?_ ?_
          rotate_left
          · rintro w' ⟨s0, s1, s2, s3, s4, s5, s6⟩
            go_simp
            with_reducible rfl
          rotate_left
          · simp only [Act.put, List.setIfInBounds_toArray, List.set_cons_zero, List.set_cons_succ, i64_w, i32_w]
            rfl
          refine pure_ (i := 6) (N := some 43) (v := ?_) (a' := ?_) #[true, true, true, true, true, false, true, false, false, false, false, false, false, false, false, false, false, false, false, false, false, false, false] rfl rfl (any_of (md := .any) (ops := opsOf Tryd.f3 12) F3tab12 (by kernel_rfl)) (fun _ _ _ h => h) (Or.inl ⟨by rfl, ?_⟩) ?_ ?_
          rotate_left
          · intro w'
            go_simp
            with_reducible rfl
          rotate_left
          · simp only [Act.put, List.setIfInBounds_toArray, List.set_cons_zero, List.set_cons_succ, i64_w, i32_w]
            rfl
          refine pure_ (i := 7) (N := some 44) (v := ?_) (a' := ?_) #[true, true, true, true, true, false, true, true, false, false, false, false, false, false, false, false, false, false, false, false, false, false, false] rfl rfl (any_of (md := .any) (ops := opsOf Tryd.f3 12) F3tab12 (by kernel_rfl)) (fun _ _ _ h => h) (Or.inl ⟨by rfl, ?_⟩) ?_ ?_
          rotate_left
          · intro w'
            go_simp
            with_reducible rfl
          rotate_left
          · simp only [Act.put, List.setIfInBounds_toArray, List.set_cons_zero, List.set_cons_succ, i64_w, i32_w]
            rfl
          refine pure_ (i := 8) (N := some 45) (v := ?_) (a' := ?_) #[true, true, true, true, true, false, true, true, true, false, false, false, false, false, false, false, false, false, false, false, false, false, false] rfl rfl (any_of (md := .any) (ops := opsOf Tryd.f3 12) F3tab12 (by kernel_rfl)) (fun _ _ _ h => h) (Or.inl ⟨by rfl, ?_⟩) ?_ ?_
          rotate_left
          · intro w'
            go_simp
            with_reducible rfl
          rotate_left
          · simp only [Act.put, List.setIfInBounds_toArray, List.set_cons_zero, List.set_cons_succ, i64_w, i32_w]
            rfl
          refine pure_ (i := 9) (N := some 46) (v := ?_) (a' := ?_) #[true, true, true, true, true, false, true, true, true, true, false, false, false, false, false, false, false, false, false, false, false, false, false] rfl rfl (any_of (md := .any) (ops := opsOf Tryd.f3 12) F3tab12 (by kernel_rfl)) (fun _ _ _ h => h) (Or.inl ⟨by rfl, ?_⟩) ?_ ?_
          rotate_left
          · intro w'
            go_simp
            with_reducible rfl
          rotate_left
          · simp only [Act.put, List.setIfInBounds_toArray, List.set_cons_zero, List.set_cons_succ, i64_w, i32_w]
            rfl
          refine take_ (i := 10) (N := some 47) (v := ?_) (a' := ?_) #[true, true, true, true, true, false, true, true, true, true, true, false, false, false, false, false, false, false, false, false, false, false, false] rfl rfl (take_of (md := .any) (ops := opsOf Tryd.f3 12) F3tab12 (by kernel_rfl)) (fun _ _ _ h => h) (Or.inl ⟨by rfl, ?_⟩) hHeld ?_ ?_
          rotate_left
          · rintro w' ⟨s0, s1, s2, s3, s4, s5, s6⟩
            go_simp
            with_reducible rfl
          rotate_left
          · simp only [Act.put, List.setIfInBounds_toArray, List.set_cons_zero, List.set_cons_succ, i64_w, i32_w]
            rfl
          refine one_ (i := 5) (N := some 42) #[true, true, true, true, true, true, true, true, true, true, true, false, false, false, false, false, false, false, false, false, false, false, false] rfl rfl (one_of (md := .any) (ops := opsOf Tryd.f3 12) F3tab12 (by kernel_rfl)) (by decide) (fun K hK => ?_)
          refine goes_ Tryd.func10 (by kernel_rfl) rfl #[.pointer (some ⟨ga, 0, none⟩), .agg #[.int .i64 y.f0, .string y.f1, .slice Y2 y.f2.length e2, .bool y.f3, .bool y.f4, .slice Y5 y.f5.length e5, .slice Y6 y.f6.length e6]] (by rfl) rfl rfl (by (try simp only [List.map_toArray, List.map_cons, List.map_nil]); first | done | rfl) ?_
          refine (ask_put AV.out (HT.out.on HB.out) (NX.out.old HB.out) OK.out L1.out PV.out).mono ?_
          rintro e w501 ⟨rfl, hp, hb, _⟩
          refine ⟨_, rfl, ?_⟩
          rw [← HNZ.out]; have n0 := Aside0.mk hp; have n1 := Aside0.mk (HB.out.trans hb); clear AV HB hp hb; have AV := n0; have HB := n1; clear n0 n1
          refine hK.out _ _ (SE0.out.below HB.out) (fun hHeld => ?_)
          clear hK K
          refine norm_ (a' := ?_) ?_ ?_
          rotate_left
          · show Act.put _ (some 42) _ = _
            simp only [Act.put, List.setIfInBounds_toArray, List.set_cons_zero, List.set_cons_succ, i64_w, i32_w]
            rfl
          refine last_ (i := 11) (N := some 48) #[true, true, true, true, true, true, true, true, true, true, true, true, false, false, false, false, false, false, false, false, false, false, false] rfl rfl (one_of (md := .any) (ops := opsOf Tryd.f3 12) F3tab12 (by kernel_rfl)) (by decide) (fun K hK => ?_)
          refine goes_ Tryd.func11 (by kernel_rfl) rfl #[.pointer (some ⟨gb, 0, none⟩), .agg #[.int .i64 y.f0, .string y.f1, .slice Y2 y.f2.length e2, .bool y.f3, .bool y.f4, .slice Y5 y.f5.length e5, .slice Y6 y.f6.length e6]] (by rfl) rfl rfl (by (try simp only [List.map_toArray, List.map_cons, List.map_nil]); first | done | rfl) ?_
          refine (ask_ref AV.out (NX.out.old HB.out) FX.out FA.out L1.out PV.out).mono ?_
          rintro e w502 ⟨v2, rfl, hp, hb⟩
          refine ⟨_, rfl, ?_⟩
          rw [← HNZ.out]; have n0 := Aside0.mk hp; have n1 := Aside0.mk (HB.out.trans hb); clear AV HB hp hb; have AV := n0; have HB := n1; clear n0 n1
          refine hK.out _ _ ?_
          clear hK K
          refine norm_ (a' := ?_) ?_ ?_
          rotate_left
          · show Act.put _ (some 48) _ = _
            simp only [Act.put, List.setIfInBounds_toArray, List.set_cons_zero, List.set_cons_succ, i64_w, i32_w]
            rfl
          clear hHeld
          obtain ⟨A2, c2, ev⟩ := AV.out.rp.slice
          subst ev
          have hHeld : r12S gb A2 all2.length c2 w502 := ⟨(blk_cell AV.out.rp.ra 0).trans rfl, trivial⟩
          refine restart_ (r12S gb A2 all2.length c2) [] (by kernel_rfl) ?_
          refine pure_ (i := 12) (N := some 49) (v := ?_) (a' := ?_) #[true, true, true, true, true, true, true, true, true, true, true, true, true, false, false, false, false, false, false, false, false, false, false] rfl rfl (any_of (md := .any) (ops := opsOf Tryd.f3 12) F3tab12 (by kernel_rfl)) (fun _ _ _ h => h) (Or.inl ⟨by rfl, ?_⟩) ?_ ?_
          rotate_left
          · intro w'
            go_simp
            with_reducible rfl
          rotate_left
          · simp only [Act.put, List.setIfInBounds_toArray, List.set_cons_zero, List.set_cons_succ, i64_w, i32_w]
            rfl
          refine pure_ (i := 13) (N := some 50) (v := ?_) (a' := ?_) #[true, true, true, true, true, true, true, true, true, true, true, true, true, true, false, false, false, false, false, false, false, false, false] rfl rfl (any_of (md := .any) (ops := opsOf Tryd.f3 12) F3tab12 (by kernel_rfl)) (fun _ _ _ h => h) (Or.inl ⟨by rfl, ?_⟩) ?_ ?_
          rotate_left
          · intro w'
            go_simp
            with_reducible rfl
          rotate_left
          · simp only [Act.put, List.setIfInBounds_toArray, List.set_cons_zero, List.set_cons_succ, i64_w, i32_w]
            rfl
          refine pure_ (i := 14) (N := some 51) (v := ?_) (a' := ?_) #[true, true, true, true, true, true, true, true, true, true, true, true, true, true, true, false, false, false, false, false, false, false, false] rfl rfl (any_of (md := .any) (ops := opsOf Tryd.f3 12) F3tab12 (by kernel_rfl)) (fun _ _ _ h => h) (Or.inl ⟨by rfl, ?_⟩) ?_ ?_
          rotate_left
          · intro w'
            go_simp
            with_reducible rfl
          rotate_left
          · simp only [Act.put, List.setIfInBounds_toArray, List.set_cons_zero, List.set_cons_succ, i64_w, i32_w]
            rfl
          refine pure_ (i := 16) (N := some 53) (v := ?_) (a' := ?_) #[true, true, true, true, true, true, true, true, true, true, true, true, true, true, true, false, true, false, false, false, false, false, false] rfl rfl (any_of (md := .any) (ops := opsOf Tryd.f3 12) F3tab12 (by kernel_rfl)) (fun _ _ _ h => h) (Or.inl ⟨by rfl, ?_⟩) ?_ ?_
          rotate_left
          · intro w'
            go_simp
            with_reducible rfl
          rotate_left
          · simp only [Act.put, List.setIfInBounds_toArray, List.set_cons_zero, List.set_cons_succ, i64_w, i32_w]
            rfl
          refine pure_ (i := 17) (N := some 54) (v := ?_) (a' := ?_) #[true, true, true, true, true, true, true, true, true, true, true, true, true, true, true, false, true, true, false, false, false, false, false] rfl rfl (any_of (md := .any) (ops := opsOf Tryd.f3 12) F3tab12 (by kernel_rfl)) (fun _ _ _ h => h) (Or.inl ⟨by rfl, ?_⟩) ?_ ?_
          rotate_left
          · intro w'
            go_simp
            with_reducible rfl
          rotate_left
          · simp only [Act.put, List.setIfInBounds_toArray, List.set_cons_zero, List.set_cons_succ, i64_w, i32_w]
            rfl
          refine pure_ (i := 18) (N := some 55) (v := ?_) (a' := ?_) #[true, true, true, true, true, true, true, true, true, true, true, true, true, true, true, false, true, true, true, false, false, false, false] rfl rfl (any_of (md := .any) (ops := opsOf Tryd.f3 12) F3tab12 (by kernel_rfl)) (fun _ _ _ h => h) (Or.inl ⟨by rfl, ?_⟩) ?_ ?_
          rotate_left
          · intro w'
            go_simp
            with_reducible rfl
          rotate_left
          · simp only [Act.put, List.setIfInBounds_toArray, List.set_cons_zero, List.set_cons_succ, i64_w, i32_w]
            rfl
          refine take_ (i := 19) (N := some 56) (v := ?_) (a' := ?_) #[true, true, true, true, true, true, true, true, true, true, true, true, true, true, true, false, true, true, true, true, false, false, false] rfl rfl (take_of (md := .any) (ops := opsOf Tryd.f3 12) F3tab12 (by kernel_rfl)) (fun _ _ _ h => h) (Or.inl ⟨by rfl, ?_⟩) hHeld ?_ ?_
          rotate_left
          · rintro w' ⟨s0, s1⟩
            go_simp
            with_reducible rfl
          rotate_left
          · simp only [Act.put, List.setIfInBounds_toArray, List.set_cons_zero, List.set_cons_succ, i64_w, i32_w]
            rfl
          refine pure_ (i := 20) (N := some 57) (v := ?_) (a' := ?_) #[true, true, true, true, true, true, true, true, true, true, true, true, true, true, true, false, true, true, true, true, true, false, false] rfl rfl (any_of (md := .any) (ops := opsOf Tryd.f3 12) F3tab12 (by kernel_rfl)) (fun _ _ _ h => h) (Or.inl ⟨by rfl, ?_⟩) ?_ ?_
          rotate_left
          · intro w'
            go_simp
            with_reducible rfl
          rotate_left
          · simp only [Act.put, List.setIfInBounds_toArray, List.set_cons_zero, List.set_cons_succ, i64_w, i32_w]
            rfl
          refine one_ (i := 15) (N := some 52) #[true, true, true, true, true, true, true, true, true, true, true, true, true, true, true, true, true, true, true, true, true, false, false] rfl rfl (one_of (md := .any) (ops := opsOf Tryd.f3 12) F3tab12 (by kernel_rfl)) (by decide) (fun K hK => ?_)
          refine goes_ Tryd.func12 (by kernel_rfl) rfl #[.pointer (some ⟨ga, 0, none⟩)] (by rfl) rfl rfl (by (try simp only [List.map_toArray, List.map_cons, List.map_nil]); first | done | rfl) ?_
          refine (len_law _ AV.out.toPW rfl).mono ?_
          rintro e w503 ⟨rfl, rfl⟩
          refine ⟨_, rfl, ?_⟩
          skip
          refine hK.out _ _ (hHeld) (fun hHeld => ?_)
          clear hK K
          refine norm_ (a' := ?_) ?_ ?_
          rotate_left
          · show Act.put _ (some 52) _ = _
            simp only [Act.put, List.setIfInBounds_toArray, List.set_cons_zero, List.set_cons_succ, i64_w, i32_w]
            rfl
          refine pure_ (i := 21) (N := some 58) (v := ?_) (a' := ?_) #[true, true, true, true, true, true, true, true, true, true, true, true, true, true, true, true, true, true, true, true, true, true, false] rfl rfl (any_of (md := .any) (ops := opsOf Tryd.f3 12) F3tab12 (by kernel_rfl)) (fun _ _ _ h => h) (Or.inl ⟨by rfl, ?_⟩) ?_ ?_
          rotate_left
          · intro w'
            go_simp
            with_reducible rfl
          rotate_left
          · simp only [Act.put, List.setIfInBounds_toArray, List.set_cons_zero, List.set_cons_succ, i64_w, i32_w]
            rfl
          refine pure_ (i := 22) (N := some 59) (v := ?_) (a' := ?_) #[true, true, true, true, true, true, true, true, true, true, true, true, true, true, true, true, true, true, true, true, true, true, true] rfl rfl (any_of (md := .any) (ops := opsOf Tryd.f3 12) F3tab12 (by kernel_rfl)) (fun _ _ _ h => h) (Or.inl ⟨by rfl, ?_⟩) ?_ ?_
          rotate_left
          · intro w'
            go_simp
            with_reducible rfl
          rotate_left
          · simp only [Act.put, List.setIfInBounds_toArray, List.set_cons_zero, List.set_cons_succ, i64_w, i32_w]
            rfl
          refine done_ (done_of (md := .any) (ops := opsOf Tryd.f3 12) F3tab12 (by kernel_rfl)) ?_
          clear hHeld
          go_wp2_with fail
          go_roundg (l.length - (i + 1))
          case measure => have := HK.out; omega
          case rel => exact ⟨i + 1, all2, _, by simp, by omega, ⟨by have := HK.out; omega⟩, ⟨TK.out⟩, GD2, AV, HB⟩
        · have t120 : decide (120 < cz) = true := decide_eq_true (by have := CZ2.out; omega)
          go_wp2_with (first | ((with_reducible refine gate_dst (N := 26) rfl ?_); refine goesL_ (some 26) rfl rfl Tryd.func8 (by kernel_rfl) rfl #[.agg #[.int .i64 y.f0, .string y.f1, .slice Y2 y.f2.length e2, .bool y.f3, .bool y.f4, .slice Y5 y.f5.length e5, .slice Y6 y.f6.length e6]] rfl (by (try simp only [List.map_toArray, List.map_cons, List.map_nil]); first | done | rfl) ?_; (refine (few10_of true (NX.out.old HB.out).nd EX.out).mono ?_); (rintro e w9 ⟨rfl, hb⟩; refine ⟨_, rfl, ?_⟩; have n0 := Aside0.mk (AV.out.below hb); have n1 := Aside0.mk (below_step HB.out hb); clear AV HB hb; clear hy0 hy1 hy2 hy3 hy4 hy5 hy6; have AV := n0; have HB := n1; clear n0 n1; obtain ⟨hy0, hy1, hy2, hy3, hy4, hy5, hy6⟩ := SE0.out.below HB.out)) | ((with_reducible refine gate_dst (N := 33) rfl ?_); (refine gate_guard (by rfl) ?_; dsimp only); refine goesL_ (some 33) rfl rfl Tryd.func9 (by kernel_rfl) rfl #[.agg #[.int .i64 y.f0, .string y.f1, .slice Y2 y.f2.length e2, .bool y.f3, .bool y.f4, .slice Y5 y.f5.length e5, .slice Y6 y.f6.length e6]] rfl (by (try simp only [List.map_toArray, List.map_cons, List.map_nil]); first | done | rfl) ?_; (refine (cnt9_of cz (NX.out.old HB.out).nd FX.out CZ.out).mono ?_); (rintro e w9 ⟨rfl, hb⟩; refine ⟨_, rfl, ?_⟩; have n0 := Aside0.mk (AV.out.below hb); have n1 := Aside0.mk (below_step HB.out hb); clear AV HB hb; clear hy0 hy1 hy2 hy3 hy4 hy5 hy6; have AV := n0; have HB := n1; clear n0 n1; obtain ⟨hy0, hy1, hy2, hy3, hy4, hy5, hy6⟩ := SE0.out.below HB.out)) | ((with_reducible refine gate_dst (N := 36) rfl ?_); refine goesL_ (some 36) rfl rfl Tryd.func7 (by kernel_rfl) rfl #[] rfl (by (try simp only [List.map_toArray, List.map_cons, List.map_nil]); first | done | rfl) ?_; (refine (told_calls _ ((HT.out.on HB.out).mono HB.out.size)).mono ?_); (rintro e w9 ⟨rfl, hb⟩; refine ⟨_, rfl, ?_⟩; have n1 := Aside0.mk (below_step HB.out hb); clear HB hb; have HB := n1; clear n1)))
          go_ret
          exact ⟨rfl, HB.out⟩
      · have EX := Aside0.mk (decide_eq_false fx)
        clear fx
        go_wp2_with (first | ((with_reducible refine gate_dst (N := 26) rfl ?_); refine goesL_ (some 26) rfl rfl Tryd.func8 (by kernel_rfl) rfl #[.agg #[.int .i64 y.f0, .string y.f1, .slice Y2 y.f2.length e2, .bool y.f3, .bool y.f4, .slice Y5 y.f5.length e5, .slice Y6 y.f6.length e6]] rfl (by (try simp only [List.map_toArray, List.map_cons, List.map_nil]); first | done | rfl) ?_; (refine (few10_of false (NX.out.old HB.out).nd EX.out).mono ?_); (rintro e w9 ⟨rfl, hb⟩; refine ⟨_, rfl, ?_⟩; have n0 := Aside0.mk (AV.out.below hb); have n1 := Aside0.mk (below_step HB.out hb); clear AV HB hb; clear hy0 hy1 hy2 hy3 hy4 hy5 hy6; have AV := n0; have HB := n1; clear n0 n1; obtain ⟨hy0, hy1, hy2, hy3, hy4, hy5, hy6⟩ := SE0.out.below HB.out)) | ((with_reducible refine gate_dst (N := 36) rfl ?_); refine goesL_ (some 36) rfl rfl Tryd.func7 (by kernel_rfl) rfl #[] rfl (by (try simp only [List.map_toArray, List.map_cons, List.map_nil]); first | done | rfl) ?_; (refine (told_calls _ ((HT.out.on HB.out).mono HB.out.size)).mono ?_); (rintro e w9 ⟨rfl, hb⟩; refine ⟨_, rfl, ?_⟩; have n1 := Aside0.mk (below_step HB.out hb); clear HB hb; have HB := n1; clear n1)))
        go_ret
        exact ⟨rfl, HB.out⟩
    · obtain rfl : i = l.length := by omega
      have LA : Aside0 (all1.length ≤ 720) := ⟨by have := GD.out.len; have := L6.out; omega⟩
      have hla : (all1.length : Int) ≤ 720 := by have := LA.out; omega
      go_wp2_with fail
      go_loopg [6] all1.length (fun k' v6 wr => ∃ i : Nat, v6 = .int .i64 i ∧ i ≤ all1.length ∧ Aside0 (k' + i = all1.length) ∧ Aside0 (AskW wr w.heap.size ga gm gb v1 all1 all1) ∧ Aside0 (Below w.heap.size w wr))
      case atStart => exact ⟨0, rfl, Nat.zero_le _, ⟨rfl⟩, AV, HB⟩
      case round =>
        clear AV HB
        obtain ⟨i, rfl, hi, HK, AV, HB⟩ := hrel
        obtain ⟨A1, c1, ev1⟩ := AV.out.rp.slice
        have hra := AV.out.rp.ra
        rw [ev1] at hra
        have q1 : wr.cell? ⟨gb, 0, none⟩ = some (.slice A1 all1.length c1) := (blk_cell hra 0).trans rfl
        have EV := Aside0.mk ev1
        clear ev1 hra
        by_cases hlt : i < all1.length
        · obtain ⟨y, hy⟩ : ∃ y, all1[i]? = some y := ⟨_, List.getElem?_eq_getElem hlt⟩
          have HY := Aside0.mk hy
          have GY := Aside0.mk (GD.out.each y (List.mem_of_getElem? hy))
          obtain ⟨cz, hcz⟩ : ∃ z : Int, wrap64 (pre y).length = z := ⟨_, rfl⟩
          have CZ := Aside0.mk hcz
          have EI : Aside0 (wrap64 ((i : Int) + 1) = ((i + 1 : Nat) : Int)) := ⟨by rw [wrap_small _ (by omega) (by omega)]; rfl⟩
          have SZ : Aside0 (cntOf all1 (wrap64 ((i : Int) + 1)) = cz) := ⟨by
            rw [EI.out, cnt_at all1 i y hy, ← hcz]
            exact (wrap_small _ (by omega) (by have := GY.out.2.2; omega)).symm⟩
          have AG := Aside0.mk (again_at AV.out.full i y hy)
          have L1 : Aside0 (all1.length + (pre y).length ≤ 1000000) := ⟨by have := LA.out; have := GY.out.2.2; omega⟩
          clear hcz hy
          go_upto_region 17 with (fail)
          clear q1
          have n0 := Aside0.mk (AV.out.below (below_drew1 (Below.refl _ _)))
          have n1 := Aside0.mk (below_step HB.out (below_drew1 (Below.refl _ _)))
          clear AV HB
          have AV := n0
          have HB := n1
          clear n0 n1
          obtain ⟨g, cap, Y2, e2, Y5, e5, Y6, e6, ev2, ny, hy0, hy1, hy2, hy3, hy4, hy5, hy6⟩ := AV.out.rp.elem i y HY.out
          have EV2 := Aside0.mk ev2
          have NY := Aside0.mk ny
          have h_ := AV.out.rp.ra
          rw [ev2] at h_
          have q1 := (blk_cell h_ 0).trans rfl
          clear ev2 ny h_
          refine start_ (n := 27) (S := fun w' => w'.cell? ⟨gb, 0, none⟩ = some (.slice (some ⟨g, 0, none⟩) all1.length cap) ∧ w'.cell? ⟨g, i * 7, none⟩ = some (.int .i64 y.f0) ∧ w'.cell? ⟨g, i * 7 + 1, none⟩ = some (.string y.f1) ∧ w'.cell? ⟨g, i * 7 + 2, none⟩ = some (.slice Y2 y.f2.length e2) ∧ w'.cell? ⟨g, i * 7 + 3, none⟩ = some (.bool y.f3) ∧ w'.cell? ⟨g, i * 7 + 4, none⟩ = some (.bool y.f4) ∧ w'.cell? ⟨g, i * 7 + 5, none⟩ = some (.slice Y5 y.f5.length e5) ∧ w'.cell? ⟨g, i * 7 + 6, none⟩ = some (.slice Y6 y.f6.length e6) ∧ True) (ds := []) #[false, false, false, false, false, false, false, false, false, false, false, false, false, false, false, false, false, false, false, false, false, false, false, false, false, false, false] (by kernel_rfl) rfl rfl (⟨q1, hy0, hy1, hy2, hy3, hy4, hy5, hy6, trivial⟩) (fun hHeld => ?_)
          clear q1 hy0 hy1 hy2 hy3 hy4 hy5 hy6
          generalize World.drew _ = w700 at AV HB NY hHeld ⊢
          refine pure_ (i := 0) (N := some 69) (v := ?_) (a' := ?_) #[true, false, false, false, false, false, false, false, false, false, false, false, false, false, false, false, false, false, false, false, false, false, false, false, false, false, false] rfl rfl (any_of (md := .any) (ops := opsOf Tryd.f3 17) F3tab17 (by kernel_rfl)) (fun _ _ _ h => h) (Or.inl ⟨by rfl, ?_⟩) ?_ ?_
          rotate_left
          · intro w'
            go_simp
            with_reducible rfl
          rotate_left
          · simp only [Act.put, List.setIfInBounds_toArray, List.set_cons_zero, List.set_cons_succ, i64_w, i32_w]
            rfl
          refine pure_ (i := 1) (N := some 70) (v := ?_) (a' := ?_) #[true, true, false, false, false, false, false, false, false, false, false, false, false, false, false, false, false, false, false, false, false, false, false, false, false, false, false] rfl rfl (any_of (md := .any) (ops := opsOf Tryd.f3 17) F3tab17 (by kernel_rfl)) (fun _ _ _ h => h) (Or.inl ⟨by rfl, ?_⟩) ?_ ?_
          rotate_left
          · intro w'
            go_simp
            with_reducible rfl
          rotate_left
          · simp only [Act.put, List.setIfInBounds_toArray, List.set_cons_zero, List.set_cons_succ, i64_w, i32_w]
            rfl
          refine pure_ (i := 2) (N := some 71) (v := ?_) (a' := ?_) #[true, true, true, false, false, false, false, false, false, false, false, false, false, false, false, false, false, false, false, false, false, false, false, false, false, false, false] rfl rfl (any_of (md := .any) (ops := opsOf Tryd.f3 17) F3tab17 (by kernel_rfl)) (fun _ _ _ h => h) (Or.inl ⟨by rfl, ?_⟩) ?_ ?_
          rotate_left
          · intro w'
            go_simp
            with_reducible rfl
          rotate_left
          · simp only [Act.put, List.setIfInBounds_toArray, List.set_cons_zero, List.set_cons_succ, i64_w, i32_w]
            rfl
          refine pure_ (i := 4) (N := some 73) (v := ?_) (a' := ?_) #[true, true, true, false, true, false, false, false, false, false, false, false, false, false, false, false, false, false, false, false, false, false, false, false, false, false, false] rfl rfl (any_of (md := .any) (ops := opsOf Tryd.f3 17) F3tab17 (by kernel_rfl)) (fun _ _ _ h => h) (Or.inl ⟨by rfl, ?_⟩) ?_ ?_
          rotate_left
          · intro w'
            go_simp
            with_reducible rfl
          rotate_left
          · simp only [Act.put, List.setIfInBounds_toArray, List.set_cons_zero, List.set_cons_succ, i64_w, i32_w]
            rfl
          refine pure_ (i := 5) (N := some 74) (v := ?_) (a' := ?_) #[true, true, true, false, true, true, false, false, false, false, false, false, false, false, false, false, false, false, false, false, false, false, false, false, false, false, false] rfl rfl (any_of (md := .any) (ops := opsOf Tryd.f3 17) F3tab17 (by kernel_rfl)) (fun _ _ _ h => h) (Or.inl ⟨by rfl, ?_⟩) ?_ ?_
          rotate_left
          · intro w'
            go_simp
            with_reducible rfl
          rotate_left
          · simp only [Act.put, List.setIfInBounds_toArray, List.set_cons_zero, List.set_cons_succ, i64_w, i32_w]
            rfl
          refine pure_ (i := 6) (N := some 75) (v := ?_) (a' := ?_) #[true, true, true, false, true, true, true, false, false, false, false, false, false, false, false, false, false, false, false, false, false, false, false, false, false, false, false] rfl rfl (any_of (md := .any) (ops := opsOf Tryd.f3 17) F3tab17 (by kernel_rfl)) (fun _ _ _ h => h) (Or.inl ⟨by rfl, ?_⟩) ?_ ?_
          rotate_left
          · intro w'
            go_simp
            with_reducible rfl
          rotate_left
          · simp only [Act.put, List.setIfInBounds_toArray, List.set_cons_zero, List.set_cons_succ, i64_w, i32_w]
            rfl
          refine take_ (i := 7) (N := some 76) (v := ?_) (a' := ?_) #[true, true, true, false, true, true, true, true, false, false, false, false, false, false, false, false, false, false, false, false, false, false, false, false, false, false, false] rfl rfl (take_of (md := .any) (ops := opsOf Tryd.f3 17) F3tab17 (by kernel_rfl)) (fun _ _ _ h => h) (Or.inl ⟨by rfl, ?_⟩) hHeld ?_ ?_
          rotate_left
          · rintro w' ⟨s0, s1, s2, s3, s4, s5, s6, s7, s8⟩
            go_simp
            with_reducible rfl
          rotate_left
          · simp only [Act.put, List.setIfInBounds_toArray, List.set_cons_zero, List.set_cons_succ, i64_w, i32_w]
            rfl
          refine pure_ (i := 8) (N := some 77) (v := ?_) (a' := ?_) #[true, true, true, false, true, true, true, true, true, false, false, false, false, false, false, false, false, false, false, false, false, false, false, false, false, false, false] rfl rfl (any_of (md := .any) (ops := opsOf Tryd.f3 17) F3tab17 (by kernel_rfl)) (fun _ _ _ h => h) (Or.inl ⟨by rfl, ?_⟩) ?_ ?_
          rotate_left
          · intro w'
            go_simp
            with_reducible rfl
          rotate_left
          · simp only [Act.put, List.setIfInBounds_toArray, List.set_cons_zero, List.set_cons_succ, i64_w, i32_w]
            rfl
          refine pure_ (i := 9) (N := some 78) (v := ?_) (a' := ?_) #[true, true, true, false, true, true, true, true, true, true, false, false, false, false, false, false, false, false, false, false, false, false, false, false, false, false, false] rfl rfl (any_of (md := .any) (ops := opsOf Tryd.f3 17) F3tab17 (by kernel_rfl)) (fun _ _ _ h => h) (Or.inl ⟨by rfl, ?_⟩) ?_ ?_
          rotate_left
          · intro w'
            go_simp
            with_reducible rfl
          rotate_left
          · simp only [Act.put, List.setIfInBounds_toArray, List.set_cons_zero, List.set_cons_succ, i64_w, i32_w]
            rfl
          refine take_ (i := 10) (N := some 79) (v := ?_) (a' := ?_) #[true, true, true, false, true, true, true, true, true, true, true, false, false, false, false, false, false, false, false, false, false, false, false, false, false, false, false] rfl rfl (take_of (md := .any) (ops := opsOf Tryd.f3 17) F3tab17 (by kernel_rfl)) (fun _ _ _ h => h) (Or.inl ⟨by rfl, ?_⟩) hHeld ?_ ?_
          rotate_left
          · rintro w' ⟨s0, s1, s2, s3, s4, s5, s6, s7, s8⟩
            go_simp
            with_reducible rfl
          rotate_left
          · simp only [Act.put, List.setIfInBounds_toArray, List.set_cons_zero, List.set_cons_succ, i64_w, i32_w]
            rfl
          refine one_ (i := 3) (N := some 72) #[true, true, true, true, true, true, true, true, true, true, true, false, false, false, false, false, false, false, false, false, false, false, false, false, false, false, false] rfl rfl (one_of (md := .any) (ops := opsOf Tryd.f3 17) F3tab17 (by kernel_rfl)) (by decide) (fun K hK => ?_)
          refine goes_ Tryd.func13 (by kernel_rfl) rfl #[.pointer (some ⟨ga, 0, none⟩), .int .i64 (wrap64 ((i : Int) + 1))] (by rfl) rfl rfl (by (try simp only [List.map_toArray, List.map_cons, List.map_nil]); first | done | rfl) ?_
          refine (size_law (wrap64 ((i : Int) + 1)) cz AV.out.toPW (by have := LA.out; omega) SZ.out).mono ?_
          rintro e w701 ⟨rfl, rfl⟩
          refine ⟨_, rfl, ?_⟩
          skip
          refine hK.out _ _ (hHeld) (fun hHeld => ?_)
          clear hK K
          refine norm_ (a' := ?_) ?_ ?_
          rotate_left
          · show Act.put _ (some 72) _ = _
            simp only [Act.put, List.setIfInBounds_toArray, List.set_cons_zero, List.set_cons_succ, i64_w, i32_w]
            rfl
          refine one_ (i := 11) (N := some 80) #[true, true, true, true, true, true, true, true, true, true, true, true, false, false, false, false, false, false, false, false, false, false, false, false, false, false, false] rfl rfl (one_of (md := .any) (ops := opsOf Tryd.f3 17) F3tab17 (by kernel_rfl)) (by decide) (fun K hK => ?_)
          refine goes_ Tryd.func9 (by kernel_rfl) rfl #[.agg #[.int .i64 y.f0, .string y.f1, .slice Y2 y.f2.length e2, .bool y.f3, .bool y.f4, .slice Y5 y.f5.length e5, .slice Y6 y.f6.length e6]] (by rfl) rfl rfl (by (try simp only [List.map_toArray, List.map_cons, List.map_nil]); first | done | rfl) ?_
          refine (cnt9_of cz NY.out.nd GY.out.1 CZ.out).mono ?_
          rintro e w702 ⟨rfl, hb⟩
          refine ⟨_, rfl, ?_⟩
          have n0 := Aside0.mk (AV.out.below hb); have n1 := Aside0.mk (below_step HB.out hb); have n2 := Aside0.mk (NY.out.below hb); clear AV HB NY; have AV := n0; have HB := n1; have NY := n2; clear n0 n1 n2
          refine hK.out _ _ (⟨bc hb (hHeld).1, bc hb (hHeld.2).1, bc hb (hHeld.2.2).1, bc hb (hHeld.2.2.2).1, bc hb (hHeld.2.2.2.2).1, bc hb (hHeld.2.2.2.2.2).1, bc hb (hHeld.2.2.2.2.2.2).1, bc hb (hHeld.2.2.2.2.2.2.2).1, trivial⟩) (fun hHeld => ?_)
          clear hK K
          refine norm_ (a' := ?_) ?_ ?_
          rotate_left
          · show Act.put _ (some 80) _ = _
            simp only [Act.put, List.setIfInBounds_toArray, List.set_cons_zero, List.set_cons_succ, i64_w, i32_w]
            rfl
          refine pure_ (i := 12) (N := some 81) (v := ?_) (a' := ?_) #[true, true, true, true, true, true, true, true, true, true, true, true, true, false, false, false, false, false, false, false, false, false, false, false, false, false, false] rfl rfl (any_of (md := .any) (ops := opsOf Tryd.f3 17) F3tab17 (by kernel_rfl)) (fun _ _ _ h => h) (Or.inl ⟨by rfl, ?_⟩) ?_ ?_
          rotate_left
          · intro w'
            go_simp
            with_reducible rfl
          rotate_left
          · simp only [Act.put, List.setIfInBounds_toArray, List.set_cons_zero, List.set_cons_succ, i64_w, i32_w]
            rfl
          refine pure_ (i := 13) (N := some 82) (v := ?_) (a' := ?_) #[true, true, true, true, true, true, true, true, true, true, true, true, true, true, false, false, false, false, false, false, false, false, false, false, false, false, false] rfl rfl (any_of (md := .any) (ops := opsOf Tryd.f3 17) F3tab17 (by kernel_rfl)) (fun _ _ _ h => h) (Or.inl ⟨by rfl, ?_⟩) ?_ ?_
          rotate_left
          · intro w'
            go_simp
            with_reducible rfl
          rotate_left
          · simp only [Act.put, List.setIfInBounds_toArray, List.set_cons_zero, List.set_cons_succ, i64_w, i32_w]
            rfl
          refine pure_ (i := 14) (N := some 83) (v := ?_) (a' := ?_) #[true, true, true, true, true, true, true, true, true, true, true, true, true, true, true, false, false, false, false, false, false, false, false, false, false, false, false] rfl rfl (any_of (md := .any) (ops := opsOf Tryd.f3 17) F3tab17 (by kernel_rfl)) (fun _ _ _ h => h) (Or.inl ⟨by rfl, ?_⟩) ?_ ?_
          rotate_left
          · intro w'
            go_simp
            with_reducible rfl
          rotate_left
          · simp only [Act.put, List.setIfInBounds_toArray, List.set_cons_zero, List.set_cons_succ, i64_w, i32_w]
            rfl
          refine pure_ (i := 15) (N := some 84) (v := ?_) (a' := ?_) #[true, true, true, true, true, true, true, true, true, true, true, true, true, true, true, true, false, false, false, false, false, false, false, false, false, false, false] rfl rfl (any_of (md := .any) (ops := opsOf Tryd.f3 17) F3tab17 (by kernel_rfl)) (fun _ _ _ h => h) (Or.inl ⟨by rfl, ?_⟩) ?_ ?_
          rotate_left
          · intro w'
            go_simp
            with_reducible rfl
          rotate_left
          · simp only [Act.put, List.setIfInBounds_toArray, List.set_cons_zero, List.set_cons_succ, i64_w, i32_w]
            rfl
          refine pure_ (i := 16) (N := some 85) (v := ?_) (a' := ?_) #[true, true, true, true, true, true, true, true, true, true, true, true, true, true, true, true, true, false, false, false, false, false, false, false, false, false, false] rfl rfl (any_of (md := .any) (ops := opsOf Tryd.f3 17) F3tab17 (by kernel_rfl)) (fun _ _ _ h => h) (Or.inl ⟨by rfl, ?_⟩) ?_ ?_
          rotate_left
          · intro w'
            go_simp
            with_reducible rfl
          rotate_left
          · simp only [Act.put, List.setIfInBounds_toArray, List.set_cons_zero, List.set_cons_succ, i64_w, i32_w]
            rfl
          refine pure_ (i := 17) (N := some 86) (v := ?_) (a' := ?_) #[true, true, true, true, true, true, true, true, true, true, true, true, true, true, true, true, true, true, false, false, false, false, false, false, false, false, false] rfl rfl (any_of (md := .any) (ops := opsOf Tryd.f3 17) F3tab17 (by kernel_rfl)) (fun _ _ _ h => h) (Or.inl ⟨by rfl, ?_⟩) ?_ ?_
          rotate_left
          · intro w'
            go_simp
            with_reducible rfl
          rotate_left
          · simp only [Act.put, List.setIfInBounds_toArray, List.set_cons_zero, List.set_cons_succ, i64_w, i32_w]
            rfl
          refine take_ (i := 18) (N := some 87) (v := ?_) (a' := ?_) #[true, true, true, true, true, true, true, true, true, true, true, true, true, true, true, true, true, true, true, false, false, false, false, false, false, false, false] rfl rfl (take_of (md := .any) (ops := opsOf Tryd.f3 17) F3tab17 (by kernel_rfl)) (fun _ _ _ h => h) (Or.inl ⟨by rfl, ?_⟩) hHeld ?_ ?_
          rotate_left
          · rintro w' ⟨s0, s1, s2, s3, s4, s5, s6, s7, s8⟩
            go_simp
            with_reducible rfl
          rotate_left
          · simp only [Act.put, List.setIfInBounds_toArray, List.set_cons_zero, List.set_cons_succ, i64_w, i32_w]
            rfl
          refine pure_ (i := 19) (N := some 88) (v := ?_) (a' := ?_) #[true, true, true, true, true, true, true, true, true, true, true, true, true, true, true, true, true, true, true, true, false, false, false, false, false, false, false] rfl rfl (any_of (md := .any) (ops := opsOf Tryd.f3 17) F3tab17 (by kernel_rfl)) (fun _ _ _ h => h) (Or.inl ⟨by rfl, ?_⟩) ?_ ?_
          rotate_left
          · intro w'
            go_simp
            with_reducible rfl
          rotate_left
          · simp only [Act.put, List.setIfInBounds_toArray, List.set_cons_zero, List.set_cons_succ, i64_w, i32_w]
            rfl
          refine pure_ (i := 20) (N := some 89) (v := ?_) (a' := ?_) #[true, true, true, true, true, true, true, true, true, true, true, true, true, true, true, true, true, true, true, true, true, false, false, false, false, false, false] rfl rfl (any_of (md := .any) (ops := opsOf Tryd.f3 17) F3tab17 (by kernel_rfl)) (fun _ _ _ h => h) (Or.inl ⟨by rfl, ?_⟩) ?_ ?_
          rotate_left
          · intro w'
            go_simp
            with_reducible rfl
          rotate_left
          · simp only [Act.put, List.setIfInBounds_toArray, List.set_cons_zero, List.set_cons_succ, i64_w, i32_w]
            rfl
          refine take_ (i := 21) (N := some 90) (v := ?_) (a' := ?_) #[true, true, true, true, true, true, true, true, true, true, true, true, true, true, true, true, true, true, true, true, true, true, false, false, false, false, false] rfl rfl (take_of (md := .any) (ops := opsOf Tryd.f3 17) F3tab17 (by kernel_rfl)) (fun _ _ _ h => h) (Or.inl ⟨by rfl, ?_⟩) hHeld ?_ ?_
          rotate_left
          · rintro w' ⟨s0, s1, s2, s3, s4, s5, s6, s7, s8⟩
            go_simp
            with_reducible rfl
          rotate_left
          · simp only [Act.put, List.setIfInBounds_toArray, List.set_cons_zero, List.set_cons_succ, i64_w, i32_w]
            rfl
          refine pure_ (i := 23) (N := some 92) (v := ?_) (a' := ?_) #[true, true, true, true, true, true, true, true, true, true, true, true, true, true, true, true, true, true, true, true, true, true, false, true, false, false, false] rfl rfl (any_of (md := .any) (ops := opsOf Tryd.f3 17) F3tab17 (by kernel_rfl)) (fun _ _ _ h => h) (Or.inl ⟨by rfl, ?_⟩) ?_ ?_
          rotate_left
          · intro w'
            go_simp
            with_reducible rfl
          rotate_left
          · simp only [Act.put, List.setIfInBounds_toArray, List.set_cons_zero, List.set_cons_succ, i64_w, i32_w]
            rfl
          refine pure_ (i := 24) (N := some 93) (v := ?_) (a' := ?_) #[true, true, true, true, true, true, true, true, true, true, true, true, true, true, true, true, true, true, true, true, true, true, false, true, true, false, false] rfl rfl (any_of (md := .any) (ops := opsOf Tryd.f3 17) F3tab17 (by kernel_rfl)) (fun _ _ _ h => h) (Or.inl ⟨by rfl, ?_⟩) ?_ ?_
          rotate_left
          · intro w'
            go_simp
            with_reducible rfl
          rotate_left
          · simp only [Act.put, List.setIfInBounds_toArray, List.set_cons_zero, List.set_cons_succ, i64_w, i32_w]
            rfl
          refine one_ (i := 22) (N := some 91) #[true, true, true, true, true, true, true, true, true, true, true, true, true, true, true, true, true, true, true, true, true, true, true, true, true, false, false] rfl rfl (one_of (md := .any) (ops := opsOf Tryd.f3 17) F3tab17 (by kernel_rfl)) (by decide) (fun K hK => ?_)
          refine goes_ Tryd.func10 (by kernel_rfl) rfl #[.pointer (some ⟨ga, 0, none⟩), .agg #[.int .i64 y.f0, .string y.f1, .slice Y2 y.f2.length e2, .bool y.f3, .bool y.f4, .slice Y5 y.f5.length e5, .slice Y6 y.f6.length e6]] (by rfl) rfl rfl (by (try simp only [List.map_toArray, List.map_cons, List.map_nil]); first | done | rfl) ?_
          refine (ask_put AV.out (HT.out.on HB.out) NY.out GY.out.2.1 L1.out AG.out).mono ?_
          rintro e w703 ⟨rfl, hp, hb, hs⟩
          refine ⟨_, rfl, ?_⟩
          rw [← EI.out]; have n0 := Aside0.mk hp; have n1 := Aside0.mk (HB.out.trans hb); clear AV HB hp hb; have AV := n0; have HB := n1; clear n0 n1
          refine hK.out _ _ (⟨(World.cell?_of_block (a := ⟨gb, 0, none⟩) (hs gb (Or.inl rfl))).trans (hHeld).1, (World.cell?_of_block (a := ⟨g, i * 7, none⟩) (hs g (Or.inr (by rw [EV2.out]; rfl)))).trans (hHeld.2).1, (World.cell?_of_block (a := ⟨g, i * 7 + 1, none⟩) (hs g (Or.inr (by rw [EV2.out]; rfl)))).trans (hHeld.2.2).1, (World.cell?_of_block (a := ⟨g, i * 7 + 2, none⟩) (hs g (Or.inr (by rw [EV2.out]; rfl)))).trans (hHeld.2.2.2).1, (World.cell?_of_block (a := ⟨g, i * 7 + 3, none⟩) (hs g (Or.inr (by rw [EV2.out]; rfl)))).trans (hHeld.2.2.2.2).1, (World.cell?_of_block (a := ⟨g, i * 7 + 4, none⟩) (hs g (Or.inr (by rw [EV2.out]; rfl)))).trans (hHeld.2.2.2.2.2).1, (World.cell?_of_block (a := ⟨g, i * 7 + 5, none⟩) (hs g (Or.inr (by rw [EV2.out]; rfl)))).trans (hHeld.2.2.2.2.2.2).1, (World.cell?_of_block (a := ⟨g, i * 7 + 6, none⟩) (hs g (Or.inr (by rw [EV2.out]; rfl)))).trans (hHeld.2.2.2.2.2.2.2).1, trivial⟩) (fun hHeld => ?_)
          clear hK K
          refine norm_ (a' := ?_) ?_ ?_
          rotate_left
          · show Act.put _ (some 91) _ = _
            simp only [Act.put, List.setIfInBounds_toArray, List.set_cons_zero, List.set_cons_succ, i64_w, i32_w]
            rfl
          refine pure_ (i := 25) (N := some 94) (v := ?_) (a' := ?_) #[true, true, true, true, true, true, true, true, true, true, true, true, true, true, true, true, true, true, true, true, true, true, true, true, true, true, false] rfl rfl (any_of (md := .any) (ops := opsOf Tryd.f3 17) F3tab17 (by kernel_rfl)) (fun _ _ _ h => h) (Or.inl ⟨by rfl, ?_⟩) ?_ ?_
          rotate_left
          · intro w'
            go_simp
            with_reducible rfl
          rotate_left
          · simp only [Act.put, List.setIfInBounds_toArray, List.set_cons_zero, List.set_cons_succ, i64_w, i32_w]
            rfl
          refine pure_ (i := 26) (N := some 95) (v := ?_) (a' := ?_) #[true, true, true, true, true, true, true, true, true, true, true, true, true, true, true, true, true, true, true, true, true, true, true, true, true, true, true] rfl rfl (any_of (md := .any) (ops := opsOf Tryd.f3 17) F3tab17 (by kernel_rfl)) (fun _ _ _ h => h) (Or.inl ⟨by rfl, ?_⟩) ?_ ?_
          rotate_left
          · intro w'
            go_simp
            with_reducible rfl
          rotate_left
          · simp only [Act.put, List.setIfInBounds_toArray, List.set_cons_zero, List.set_cons_succ, i64_w, i32_w]
            rfl
          refine done_ (done_of (md := .any) (ops := opsOf Tryd.f3 17) F3tab17 (by kernel_rfl)) ?_
          clear hHeld
          go_wp2_with fail
          go_roundg (all1.length - (i + 1))
          case measure => have := HK.out; omega
          case rel => exact ⟨i + 1, by simp, by omega, ⟨by have := HK.out; omega⟩, AV, HB⟩
        · obtain rfl : i = all1.length := by omega
          have EI : Aside0 (wrap64 ((all1.length : Int) + 1) = ((all1.length : Int) + 1)) := ⟨wrap_small _ (by omega) (by omega)⟩
          have SZ : Aside0 (cntOf all1 (wrap64 ((all1.length : Int) + 1)) = 0) := ⟨by rw [EI.out]; exact cnt_over _ _ (by omega)⟩
          go_upto_region 19 with (fail)
          clear q1
          have n0 := Aside0.mk (AV.out.below (below_drew1 (Below.refl _ _)))
          have n1 := Aside0.mk (below_step HB.out (below_drew1 (Below.refl _ _)))
          clear AV HB
          have AV := n0
          have HB := n1
          clear n0 n1
          have h_ := AV.out.rp.ra
          rw [EV.out] at h_
          have q1 := (blk_cell h_ 0).trans rfl
          clear h_
          refine start_ (n := 28) (S := r12S gb A1 all1.length c1) (ds := []) #[false, false, false, false, false, false, false, false, false, false, false, false, false, false, false, false, false, false, false, false, false, false, false, false, false, false, false, false] (by kernel_rfl) rfl rfl (⟨q1, trivial⟩) (fun hHeld => ?_)
          clear q1
          generalize World.drew _ = w800 at AV HB hHeld ⊢
          refine one_ (i := 0) (N := some 96) #[true, false, false, false, false, false, false, false, false, false, false, false, false, false, false, false, false, false, false, false, false, false, false, false, false, false, false, false] rfl rfl (one_of (md := .any) (ops := opsOf Tryd.f3 19) F3tab19 (by kernel_rfl)) (by decide) (fun K hK => ?_)
          refine goes_ Tryd.func7 (by kernel_rfl) rfl #[] (by rfl) rfl rfl (by (try simp only [List.map_toArray, List.map_cons, List.map_nil]); first | done | rfl) ?_
          refine (told_calls _ ((HT.out.on HB.out).mono HB.out.size)).mono ?_
          rintro e w801 ⟨rfl, hb⟩
          refine ⟨_, rfl, ?_⟩
          have n0 := Aside0.mk (AV.out.below hb); have n1 := Aside0.mk (below_step HB.out hb); clear AV HB; have AV := n0; have HB := n1; clear n0 n1
          refine hK.out _ _ (⟨bc hb hHeld.1, trivial⟩) (fun hHeld => ?_)
          clear hK K
          refine norm_ (a' := ?_) ?_ ?_
          rotate_left
          · show Act.put _ (some 96) _ = _
            simp only [Act.put, List.setIfInBounds_toArray, List.set_cons_zero, List.set_cons_succ, i64_w, i32_w]
            rfl
          refine pure_ (i := 1) (N := some 97) (v := ?_) (a' := ?_) #[true, true, false, false, false, false, false, false, false, false, false, false, false, false, false, false, false, false, false, false, false, false, false, false, false, false, false, false] rfl rfl (any_of (md := .any) (ops := opsOf Tryd.f3 19) F3tab19 (by kernel_rfl)) (fun _ _ _ h => h) (Or.inl ⟨by rfl, ?_⟩) ?_ ?_
          rotate_left
          · intro w'
            go_simp
            with_reducible rfl
          rotate_left
          · simp only [Act.put, List.setIfInBounds_toArray, List.set_cons_zero, List.set_cons_succ, i64_w, i32_w]
            rfl
          refine pure_ (i := 2) (N := some 98) (v := ?_) (a' := ?_) #[true, true, true, false, false, false, false, false, false, false, false, false, false, false, false, false, false, false, false, false, false, false, false, false, false, false, false, false] rfl rfl (any_of (md := .any) (ops := opsOf Tryd.f3 19) F3tab19 (by kernel_rfl)) (fun _ _ _ h => h) (Or.inl ⟨by rfl, ?_⟩) ?_ ?_
          rotate_left
          · intro w'
            go_simp
            with_reducible rfl
          rotate_left
          · simp only [Act.put, List.setIfInBounds_toArray, List.set_cons_zero, List.set_cons_succ, i64_w, i32_w]
            rfl
          refine one_ (i := 3) (N := some 99) #[true, true, true, true, false, false, false, false, false, false, false, false, false, false, false, false, false, false, false, false, false, false, false, false, false, false, false, false] rfl rfl (one_of (md := .any) (ops := opsOf Tryd.f3 19) F3tab19 (by kernel_rfl)) (by decide) (fun K hK => ?_)
          refine goes_ Tryd.func13 (by kernel_rfl) rfl #[.pointer (some ⟨ga, 0, none⟩), .int .i64 0] (by rfl) rfl rfl (by (try simp only [List.map_toArray, List.map_cons, List.map_nil]); first | done | rfl) ?_
          refine (size_law 0 0 AV.out.toPW (by have := LA.out; omega) (cnt_0 _)).mono ?_
          rintro e w802 ⟨rfl, rfl⟩
          refine ⟨_, rfl, ?_⟩
          skip
          refine hK.out _ _ (hHeld) (fun hHeld => ?_)
          clear hK K
          refine norm_ (a' := ?_) ?_ ?_
          rotate_left
          · show Act.put _ (some 99) _ = _
            simp only [Act.put, List.setIfInBounds_toArray, List.set_cons_zero, List.set_cons_succ, i64_w, i32_w]
            rfl
          refine pure_ (i := 4) (N := some 100) (v := ?_) (a' := ?_) #[true, true, true, true, true, false, false, false, false, false, false, false, false, false, false, false, false, false, false, false, false, false, false, false, false, false, false, false] rfl rfl (any_of (md := .any) (ops := opsOf Tryd.f3 19) F3tab19 (by kernel_rfl)) (fun _ _ _ h => h) (Or.inl ⟨by rfl, ?_⟩) ?_ ?_
          rotate_left
          · intro w'
            go_simp
            with_reducible rfl
          rotate_left
          · simp only [Act.put, List.setIfInBounds_toArray, List.set_cons_zero, List.set_cons_succ, i64_w, i32_w]
            rfl
          refine pure_ (i := 5) (N := some 101) (v := ?_) (a' := ?_) #[true, true, true, true, true, true, false, false, false, false, false, false, false, false, false, false, false, false, false, false, false, false, false, false, false, false, false, false] rfl rfl (any_of (md := .any) (ops := opsOf Tryd.f3 19) F3tab19 (by kernel_rfl)) (fun _ _ _ h => h) (Or.inl ⟨by rfl, ?_⟩) ?_ ?_
          rotate_left
          · intro w'
            go_simp
            with_reducible rfl
          rotate_left
          · simp only [Act.put, List.setIfInBounds_toArray, List.set_cons_zero, List.set_cons_succ, i64_w, i32_w]
            rfl
          refine pure_ (i := 6) (N := some 102) (v := ?_) (a' := ?_) #[true, true, true, true, true, true, true, false, false, false, false, false, false, false, false, false, false, false, false, false, false, false, false, false, false, false, false, false] rfl rfl (any_of (md := .any) (ops := opsOf Tryd.f3 19) F3tab19 (by kernel_rfl)) (fun _ _ _ h => h) (Or.inl ⟨by rfl, ?_⟩) ?_ ?_
          rotate_left
          · intro w'
            go_simp
            with_reducible rfl
          rotate_left
          · simp only [Act.put, List.setIfInBounds_toArray, List.set_cons_zero, List.set_cons_succ, i64_w, i32_w]
            rfl
          refine pure_ (i := 7) (N := some 103) (v := ?_) (a' := ?_) #[true, true, true, true, true, true, true, true, false, false, false, false, false, false, false, false, false, false, false, false, false, false, false, false, false, false, false, false] rfl rfl (any_of (md := .any) (ops := opsOf Tryd.f3 19) F3tab19 (by kernel_rfl)) (fun _ _ _ h => h) (Or.inl ⟨by rfl, ?_⟩) ?_ ?_
          rotate_left
          · intro w'
            go_simp
            with_reducible rfl
          rotate_left
          · simp only [Act.put, List.setIfInBounds_toArray, List.set_cons_zero, List.set_cons_succ, i64_w, i32_w]
            rfl
          refine pure_ (i := 8) (N := some 104) (v := ?_) (a' := ?_) #[true, true, true, true, true, true, true, true, true, false, false, false, false, false, false, false, false, false, false, false, false, false, false, false, false, false, false, false] rfl rfl (any_of (md := .any) (ops := opsOf Tryd.f3 19) F3tab19 (by kernel_rfl)) (fun _ _ _ h => h) (Or.inl ⟨by rfl, ?_⟩) ?_ ?_
          rotate_left
          · intro w'
            go_simp
            with_reducible rfl
          rotate_left
          · simp only [Act.put, List.setIfInBounds_toArray, List.set_cons_zero, List.set_cons_succ, i64_w, i32_w]
            rfl
          refine pure_ (i := 9) (N := some 105) (v := ?_) (a' := ?_) #[true, true, true, true, true, true, true, true, true, true, false, false, false, false, false, false, false, false, false, false, false, false, false, false, false, false, false, false] rfl rfl (any_of (md := .any) (ops := opsOf Tryd.f3 19) F3tab19 (by kernel_rfl)) (fun _ _ _ h => h) (Or.inl ⟨by rfl, ?_⟩) ?_ ?_
          rotate_left
          · intro w'
            go_simp
            with_reducible rfl
          rotate_left
          · simp only [Act.put, List.setIfInBounds_toArray, List.set_cons_zero, List.set_cons_succ, i64_w, i32_w]
            rfl
          refine pure_ (i := 10) (N := some 106) (v := ?_) (a' := ?_) #[true, true, true, true, true, true, true, true, true, true, true, false, false, false, false, false, false, false, false, false, false, false, false, false, false, false, false, false] rfl rfl (any_of (md := .any) (ops := opsOf Tryd.f3 19) F3tab19 (by kernel_rfl)) (fun _ _ _ h => h) (Or.inl ⟨by rfl, ?_⟩) ?_ ?_
          rotate_left
          · intro w'
            go_simp
            with_reducible rfl
          rotate_left
          · simp only [Act.put, List.setIfInBounds_toArray, List.set_cons_zero, List.set_cons_succ, i64_w, i32_w]
            rfl
          refine take_ (i := 11) (N := some 107) (v := ?_) (a' := ?_) #[true, true, true, true, true, true, true, true, true, true, true, true, false, false, false, false, false, false, false, false, false, false, false, false, false, false, false, false] rfl rfl (take_of (md := .any) (ops := opsOf Tryd.f3 19) F3tab19 (by kernel_rfl)) (fun _ _ _ h => h) (Or.inl ⟨by rfl, ?_⟩) hHeld ?_ ?_
          rotate_left
          · rintro w' ⟨s0, s1⟩
            go_simp
            with_reducible rfl
          rotate_left
          · simp only [Act.put, List.setIfInBounds_toArray, List.set_cons_zero, List.set_cons_succ, i64_w, i32_w]
            rfl
          refine pure_ (i := 12) (N := some 108) (v := ?_) (a' := ?_) #[true, true, true, true, true, true, true, true, true, true, true, true, true, false, false, false, false, false, false, false, false, false, false, false, false, false, false, false] rfl rfl (any_of (md := .any) (ops := opsOf Tryd.f3 19) F3tab19 (by kernel_rfl)) (fun _ _ _ h => h) (Or.inl ⟨by rfl, ?_⟩) ?_ ?_
          rotate_left
          · intro w'
            go_simp
            with_reducible rfl
          rotate_left
          · simp only [Act.put, List.setIfInBounds_toArray, List.set_cons_zero, List.set_cons_succ, i64_w, i32_w]
            rfl
          refine pure_ (i := 13) (N := some 109) (v := ?_) (a' := ?_) #[true, true, true, true, true, true, true, true, true, true, true, true, true, true, false, false, false, false, false, false, false, false, false, false, false, false, false, false] rfl rfl (any_of (md := .any) (ops := opsOf Tryd.f3 19) F3tab19 (by kernel_rfl)) (fun _ _ _ h => h) (Or.inl ⟨by rfl, ?_⟩) ?_ ?_
          rotate_left
          · intro w'
            go_simp
            with_reducible rfl
          rotate_left
          · simp only [Act.put, List.setIfInBounds_toArray, List.set_cons_zero, List.set_cons_succ, i64_w, i32_w]
            rfl
          refine one_ (i := 14) (N := some 110) #[true, true, true, true, true, true, true, true, true, true, true, true, true, true, true, false, false, false, false, false, false, false, false, false, false, false, false, false] rfl rfl (one_of (md := .any) (ops := opsOf Tryd.f3 19) F3tab19 (by kernel_rfl)) (by decide) (fun K hK => ?_)
          refine goes_ Tryd.func13 (by kernel_rfl) rfl #[.pointer (some ⟨ga, 0, none⟩), .int .i64 (wrap64 ((all1.length : Int) + 1))] (by rfl) rfl rfl (by (try simp only [List.map_toArray, List.map_cons, List.map_nil]); first | done | rfl) ?_
          refine (size_law (wrap64 ((all1.length : Int) + 1)) 0 AV.out.toPW (by have := LA.out; omega) SZ.out).mono ?_
          rintro e w803 ⟨rfl, rfl⟩
          refine ⟨_, rfl, ?_⟩
          skip
          refine hK.out _ _ (hHeld) (fun hHeld => ?_)
          clear hK K
          refine norm_ (a' := ?_) ?_ ?_
          rotate_left
          · show Act.put _ (some 110) _ = _
            simp only [Act.put, List.setIfInBounds_toArray, List.set_cons_zero, List.set_cons_succ, i64_w, i32_w]
            rfl
          refine pure_ (i := 15) (N := some 111) (v := ?_) (a' := ?_) #[true, true, true, true, true, true, true, true, true, true, true, true, true, true, true, true, false, false, false, false, false, false, false, false, false, false, false, false] rfl rfl (any_of (md := .any) (ops := opsOf Tryd.f3 19) F3tab19 (by kernel_rfl)) (fun _ _ _ h => h) (Or.inl ⟨by rfl, ?_⟩) ?_ ?_
          rotate_left
          · intro w'
            go_simp
            with_reducible rfl
          rotate_left
          · simp only [Act.put, List.setIfInBounds_toArray, List.set_cons_zero, List.set_cons_succ, i64_w, i32_w]
            rfl
          refine pure_ (i := 16) (N := some 112) (v := ?_) (a' := ?_) #[true, true, true, true, true, true, true, true, true, true, true, true, true, true, true, true, true, false, false, false, false, false, false, false, false, false, false, false] rfl rfl (any_of (md := .any) (ops := opsOf Tryd.f3 19) F3tab19 (by kernel_rfl)) (fun _ _ _ h => h) (Or.inl ⟨by rfl, ?_⟩) ?_ ?_
          rotate_left
          · intro w'
            go_simp
            with_reducible rfl
          rotate_left
          · simp only [Act.put, List.setIfInBounds_toArray, List.set_cons_zero, List.set_cons_succ, i64_w, i32_w]
            rfl
          refine pure_ (i := 17) (N := some 113) (v := ?_) (a' := ?_) #[true, true, true, true, true, true, true, true, true, true, true, true, true, true, true, true, true, true, false, false, false, false, false, false, false, false, false, false] rfl rfl (any_of (md := .any) (ops := opsOf Tryd.f3 19) F3tab19 (by kernel_rfl)) (fun _ _ _ h => h) (Or.inl ⟨by rfl, ?_⟩) ?_ ?_
          rotate_left
          · intro w'
            go_simp
            with_reducible rfl
          rotate_left
          · simp only [Act.put, List.setIfInBounds_toArray, List.set_cons_zero, List.set_cons_succ, i64_w, i32_w]
            rfl
          refine pure_ (i := 18) (N := some 114) (v := ?_) (a' := ?_) #[true, true, true, true, true, true, true, true, true, true, true, true, true, true, true, true, true, true, true, false, false, false, false, false, false, false, false, false] rfl rfl (any_of (md := .any) (ops := opsOf Tryd.f3 19) F3tab19 (by kernel_rfl)) (fun _ _ _ h => h) (Or.inl ⟨by rfl, ?_⟩) ?_ ?_
          rotate_left
          · intro w'
            go_simp
            with_reducible rfl
          rotate_left
          · simp only [Act.put, List.setIfInBounds_toArray, List.set_cons_zero, List.set_cons_succ, i64_w, i32_w]
            rfl
          refine pure_ (i := 20) (N := some 116) (v := ?_) (a' := ?_) #[true, true, true, true, true, true, true, true, true, true, true, true, true, true, true, true, true, true, true, false, true, false, false, false, false, false, false, false] rfl rfl (any_of (md := .any) (ops := opsOf Tryd.f3 19) F3tab19 (by kernel_rfl)) (fun _ _ _ h => h) (Or.inl ⟨by rfl, ?_⟩) ?_ ?_
          rotate_left
          · intro w'
            go_simp
            with_reducible rfl
          rotate_left
          · simp only [Act.put, List.setIfInBounds_toArray, List.set_cons_zero, List.set_cons_succ, i64_w, i32_w]
            rfl
          refine pure_ (i := 21) (N := some 117) (v := ?_) (a' := ?_) #[true, true, true, true, true, true, true, true, true, true, true, true, true, true, true, true, true, true, true, false, true, true, false, false, false, false, false, false] rfl rfl (any_of (md := .any) (ops := opsOf Tryd.f3 19) F3tab19 (by kernel_rfl)) (fun _ _ _ h => h) (Or.inl ⟨by rfl, ?_⟩) ?_ ?_
          rotate_left
          · intro w'
            go_simp
            with_reducible rfl
          rotate_left
          · simp only [Act.put, List.setIfInBounds_toArray, List.set_cons_zero, List.set_cons_succ, i64_w, i32_w]
            rfl
          refine pure_ (i := 22) (N := some 118) (v := ?_) (a' := ?_) #[true, true, true, true, true, true, true, true, true, true, true, true, true, true, true, true, true, true, true, false, true, true, true, false, false, false, false, false] rfl rfl (any_of (md := .any) (ops := opsOf Tryd.f3 19) F3tab19 (by kernel_rfl)) (fun _ _ _ h => h) (Or.inl ⟨by rfl, ?_⟩) ?_ ?_
          rotate_left
          · intro w'
            go_simp
            with_reducible rfl
          rotate_left
          · simp only [Act.put, List.setIfInBounds_toArray, List.set_cons_zero, List.set_cons_succ, i64_w, i32_w]
            rfl
          refine take_ (i := 23) (N := some 119) (v := ?_) (a' := ?_) #[true, true, true, true, true, true, true, true, true, true, true, true, true, true, true, true, true, true, true, false, true, true, true, true, false, false, false, false] rfl rfl (take_of (md := .any) (ops := opsOf Tryd.f3 19) F3tab19 (by kernel_rfl)) (fun _ _ _ h => h) (Or.inl ⟨by rfl, ?_⟩) hHeld ?_ ?_
          rotate_left
          · rintro w' ⟨s0, s1⟩
            go_simp
            with_reducible rfl
          rotate_left
          · simp only [Act.put, List.setIfInBounds_toArray, List.set_cons_zero, List.set_cons_succ, i64_w, i32_w]
            rfl
          refine pure_ (i := 24) (N := some 120) (v := ?_) (a' := ?_) #[true, true, true, true, true, true, true, true, true, true, true, true, true, true, true, true, true, true, true, false, true, true, true, true, true, false, false, false] rfl rfl (any_of (md := .any) (ops := opsOf Tryd.f3 19) F3tab19 (by kernel_rfl)) (fun _ _ _ h => h) (Or.inl ⟨by rfl, ?_⟩) ?_ ?_
          rotate_left
          · intro w'
            go_simp
            with_reducible rfl
          rotate_left
          · simp only [Act.put, List.setIfInBounds_toArray, List.set_cons_zero, List.set_cons_succ, i64_w, i32_w]
            rfl
          refine one_ (i := 19) (N := some 115) #[true, true, true, true, true, true, true, true, true, true, true, true, true, true, true, true, true, true, true, true, true, true, true, true, true, false, false, false] rfl rfl (one_of (md := .any) (ops := opsOf Tryd.f3 19) F3tab19 (by kernel_rfl)) (by decide) (fun K hK => ?_)
          refine goes_ Tryd.func12 (by kernel_rfl) rfl #[.pointer (some ⟨ga, 0, none⟩)] (by rfl) rfl rfl (by (try simp only [List.map_toArray, List.map_cons, List.map_nil]); first | done | rfl) ?_
          refine (len_law _ AV.out.toPW rfl).mono ?_
          rintro e w804 ⟨rfl, rfl⟩
          refine ⟨_, rfl, ?_⟩
          skip
          refine hK.out _ _ (hHeld) (fun hHeld => ?_)
          clear hK K
          refine norm_ (a' := ?_) ?_ ?_
          rotate_left
          · show Act.put _ (some 115) _ = _
            simp only [Act.put, List.setIfInBounds_toArray, List.set_cons_zero, List.set_cons_succ, i64_w, i32_w]
            rfl
          refine pure_ (i := 25) (N := some 121) (v := ?_) (a' := ?_) #[true, true, true, true, true, true, true, true, true, true, true, true, true, true, true, true, true, true, true, true, true, true, true, true, true, true, false, false] rfl rfl (any_of (md := .any) (ops := opsOf Tryd.f3 19) F3tab19 (by kernel_rfl)) (fun _ _ _ h => h) (Or.inl ⟨by rfl, ?_⟩) ?_ ?_
          rotate_left
          · intro w'
            go_simp
            with_reducible rfl
          rotate_left
          · simp only [Act.put, List.setIfInBounds_toArray, List.set_cons_zero, List.set_cons_succ, i64_w, i32_w]
            rfl
          refine pure_ (i := 26) (N := some 122) (v := ?_) (a' := ?_) #[true, true, true, true, true, true, true, true, true, true, true, true, true, true, true, true, true, true, true, true, true, true, true, true, true, true, true, false] rfl rfl (any_of (md := .any) (ops := opsOf Tryd.f3 19) F3tab19 (by kernel_rfl)) (fun _ _ _ h => h) (Or.inl ⟨by rfl, ?_⟩) ?_ ?_
          rotate_left
          · intro w'
            go_simp
            with_reducible rfl
          rotate_left
          · simp only [Act.put, List.setIfInBounds_toArray, List.set_cons_zero, List.set_cons_succ, i64_w, i32_w]
            rfl
          refine pure_ (i := 27) (N := some 2) (v := ?_) (a' := ?_) #[true, true, true, true, true, true, true, true, true, true, true, true, true, true, true, true, true, true, true, true, true, true, true, true, true, true, true, true] rfl rfl (any_of (md := .any) (ops := opsOf Tryd.f3 19) F3tab19 (by kernel_rfl)) (fun _ _ _ h => h) (Or.inl ⟨by rfl, ?_⟩) ?_ ?_
          rotate_left
          · intro w'
            go_simp
            with_reducible rfl
          rotate_left
          · simp only [Act.put, List.setIfInBounds_toArray, List.set_cons_zero, List.set_cons_succ, i64_w, i32_w]
            rfl
          refine done_ (done_of (md := .any) (ops := opsOf Tryd.f3 19) F3tab19 (by kernel_rfl)) ?_
          clear hHeld
          go_wp2_with fail
          go_ret
          exact ⟨rfl, HB.out⟩
theorem PoolAsks_walk {w : World} (hT : Tab w.heap.size w) (l : List S32) (A : Option Addr) (c : Nat) (hc : l.length ≤ c) (hl : Kd.C k32 w A l.length l) (oz : ∀ x ∈ l, szT x) : Calls Tryd.prog 3 #[.slice A l.length c] w fun e w' => e = .returned (.bool true) ∧ Below w.heap.size w w' := by
  cases h6 : decide (6 < (l.length : Int))
  · exact asks_main l A c w hl hc hT oz h6 (by have : ¬ (6 < (l.length : Int)) := of_decide_eq_false h6; omega)
  · exact asks_long l A c w hl hc hT h6
end Go.Proofs.YtjlnlonioknkhaaDoor.PL

/- PoolTwice: the walk. -/
import Derived.Test.YtjlnlonioknkhaaDoorHD11
namespace Go.Proofs.YtjlnlonioknkhaaDoor.PL
open Go.RowKit Go.Proofs.YtjlnlonioknkhaaDoorW.PrintWords Go.Proofs.YtjlnlonioknkhaaDoorW.PrintLast Go.Proofs.YtjlnlonioknkhaaDoorW.PrintMore
set_option linter.unusedVariables false
set_option linter.unusedSimpArgs false

theorem F5tab15 : rtab .any (opsOf Tryd.f5 15) = (true, [([], []), ([], []), ([0, 1], [0, 1]), ([2], [2]), ([3], [3]), ([3], [3]), ([4, 5, 3], [3, 4, 5]), ([3], [3]), ([3], [3]), ([7, 8, 3], [3, 7, 8]), ([9, 3], [3, 9]), ([10, 3, 3], [3, 10]), ([6, 11, 3], [3, 6, 11]), ([3, 12], [3, 12]), ([13, 11], [13]), ([14], [14]), ([15, 14], [14, 15]), ([14, 16], [14, 16]), ([17, 14], [17]), ([18], [18]), ([18], [18]), ([19, 20, 18], [18, 19, 20]), ([18, 21], [18, 21]), ([22, 18], [22]), ([23], [23]), ([23], [23]), ([23], [23]), ([25, 26, 23], [23, 25, 26]), ([27, 23], [23, 27]), ([24, 28, 23, 23], [23, 24, 28]), ([23], [23]), ([29, 30, 23], [23, 29, 30]), ([23, 31], [23, 31]), ([32, 29], [32]), ([33], [33]), ([34, 33, 33], [33, 34]), ([33], [33]), ([35, 36, 33], [33, 35, 36]), ([33, 37], [33, 37]), ([38, 35], [38]), ([39], [39]), ([39], [39]), ([40, 41, 39, 39], [39, 40, 41]), ([39], [39]), ([39], [39]), ([43, 44, 39], [39, 43, 44]), ([45, 39], [39, 45]), ([46, 42, 39], [39, 46]), ([42, 47, 39], [39, 42, 47]), ([39, 48], [39, 48])]) := by kernel_rfl
mutual
theorem pre_tb : ∀ (x : S32), (pre x).length ≤ tb x
  | ⟨a, b, l, c, d, e, f⟩ => by
    have h := preL_tb l
    simp only [pre, tb, List.length_cons]
    omega
theorem preL_tb : ∀ (l : List S32), (preL l).length ≤ tbL l
  | [] => by simp [preL]
  | x :: r => by
    have h1 := pre_tb x
    have h2 := preL_tb r
    simp only [preL, tbL, List.length_append]
    omega
end
theorem tbL_len (l : List S32) : l.length ≤ tbL l := by
  induction l with
  | nil => simp
  | cons x r ih =>
    have h := pre_tb x
    rw [pre_eq] at h
    simp only [List.length_cons, tbL] at h ⊢
    omega
theorem tbS_len (l : List ByteArray) : l.length ≤ tbS l := by
  induction l with
  | nil => simp
  | cons x r ih => simp only [List.length_cons, tbS]; omega
theorem fin_tb {x : S32} (h : tb x ≤ 1048576) : Fin32 x := fun y hy => by
  have h1 := tb_pre x y hy
  obtain ⟨a0, a1, a2, a3, a4, a5, a6⟩ := y
  have h2 := tbL_len a2
  have h5 := tbS_len a5
  have h6 := tbS_len a6
  simp only [tb] at h1
  simp only
  omega
theorem twice_plain (y : S32) (all1 all2 : List S32) (n : Nat) (hf : Full all1) (e : refV y all1 = (n, all2)) :
    refV y all2 = (n, all2) ∧ 1 ≤ n ∧ n ≤ all2.length ∧ all1.length ≤ all2.length ∧ all2.length ≤ all1.length + (pre y).length ∧ cntOf all2 (n : Int) = ((pre y).length : Int) ∧ ∀ z ∈ y.f2, ∃ q, refV z all2 = (q, all2) ∧ 1 ≤ q ∧ q < n := by
  obtain ⟨h1, _, h3, h4⟩ := refV_full y all1 hf
  have h5 := refV_len y all1
  rw [e] at h1 h3 h4 h5
  have k1 : Full all2 := h1
  have k3 : refIdx y all2 0 = some (n - 1) := h3
  have k4 : 1 ≤ n := h4
  have k5 : all1.length ≤ all2.length ∧ all2.length ≤ all1.length + (pre y).length := h5
  have hlt := refIdx_lt k3
  have hn : n - 1 + 1 = n := by omega
  refine ⟨by rw [refV_again y all2 _ k1 k3, hn], k4, by omega, k5.1, k5.2, ?_, fun z hz => ?_⟩
  · obtain ⟨r, _, hr, hc⟩ := refIdx_some y all2 0 _ k3
    rw [Nat.sub_zero] at hr
    have := cnt_at all2 (n - 1) r hr
    rw [hn] at this
    rw [this, ← cn_count r, hc, cn_count]
  · obtain ⟨j, hj⟩ := parts_has k1 ⟨_, k3⟩ z hz
    have h6 := part_low k1 ⟨_, k3⟩ z hz
    rw [num_of hj, num_of k3] at h6
    exact ⟨j + 1, refV_again z all2 j k1 hj, by omega, by omega⟩
set_option maxHeartbeats 2000000 in
theorem twice_long (l : List S32) (A : Option Addr) (c : Nat) (w : World) (hl : Kd.C k32 w A l.length l) (hc : l.length ≤ c) (hT : Tab w.heap.size w) (h4 : decide (4 < (l.length : Int)) = true) : Calls Tryd.prog 5 #[.slice A l.length c] w fun e w' => e = .returned (.bool true) ∧ Below w.heap.size w w' := by
  have hu32 := Tryd.underlying32
  have HL := Aside0.mk hl
  have HC := Aside0.mk hc
  have HT := Aside0.mk hT
  clear hl hc hT
  go_enter Tryd.func5, Tryd.ntmps5
  go_wp2_with (first | ((with_reducible refine gate_dst (N := 11) rfl ?_); refine goesL_ (some 11) rfl rfl Tryd.func6 (by kernel_rfl) rfl #[] rfl (by (try simp only [List.map_toArray, List.map_cons, List.map_nil]); first | done | rfl) ?_; (refine (new_law w.heap.size w (Nat.le_refl _)).mono ?_); (rintro e w9 ⟨ga, gm, rfl, hp, hb⟩; refine ⟨_, rfl, ?_⟩; have PV := Aside0.mk hp; have HB := Aside0.mk hb; clear hp hb)) | ((with_reducible refine gate_dst (N := 17) rfl ?_); refine goesL_ (some 17) rfl rfl Tryd.func7 (by kernel_rfl) rfl #[] rfl (by (try simp only [List.map_toArray, List.map_cons, List.map_nil]); first | done | rfl) ?_; (refine (told_calls _ ((HT.out.on HB.out).mono HB.out.size)).mono ?_); (rintro e w9 ⟨rfl, hb⟩; refine ⟨_, rfl, ?_⟩; have n0 := Aside0.mk (PV.out.below hb); have n1 := Aside0.mk (below_step HB.out hb); clear PV HB hb; have PV := n0; have HB := n1; clear n0 n1)))
  go_ret
  exact ⟨rfl, HB.out⟩
set_option maxHeartbeats 8000000 in
set_option maxRecDepth 100000 in
theorem twice_main (l : List S32) (A : Option Addr) (c : Nat) (w : World) (hl : Kd.C k32 w A l.length l) (hc : l.length ≤ c) (hT : Tab w.heap.size w) (oz : ∀ x ∈ l, tb x ≤ 1048576) (h4 : decide (4 < (l.length : Int)) = false) (hl4 : l.length ≤ 4) : Calls Tryd.prog 5 #[.slice A l.length c] w fun e w' => e = .returned (.bool true) ∧ Below w.heap.size w w' := by
  have hu32 := Tryd.underlying32
  have HL := Aside0.mk hl
  have HC := Aside0.mk hc
  have HT := Aside0.mk hT
  clear hl hc hT
  have OZ := Aside0.mk oz
  have L4 := Aside0.mk hl4
  have hlb : (l.length : Int) ≤ 4 := by omega
  clear oz hl4
  go_enter Tryd.func5, Tryd.ntmps5
  go_wp2_with (first | ((with_reducible refine gate_dst (N := 11) rfl ?_); refine goesL_ (some 11) rfl rfl Tryd.func6 (by kernel_rfl) rfl #[] rfl (by (try simp only [List.map_toArray, List.map_cons, List.map_nil]); first | done | rfl) ?_; (refine (new_law w.heap.size w (Nat.le_refl _)).mono ?_); (rintro e w9 ⟨ga, gm, rfl, hp, hb⟩; refine ⟨_, rfl, ?_⟩; have PV := Aside0.mk hp; have HB := Aside0.mk hb; clear hp hb)))
  go_loopg [4] l.length (fun k' v4 wr => ∃ (i : Nat) (all1 : List S32), v4 = .int .i64 i ∧ i ≤ l.length ∧ Aside0 (k' + i = l.length) ∧ Aside0 (all1.length ≤ 150 * i) ∧ Aside0 (PW wr w.heap.size ga gm all1) ∧ Aside0 (Below w.heap.size w wr))
  case atStart => exact ⟨0, [], rfl, Nat.zero_le _, ⟨rfl⟩, ⟨Nat.zero_le _⟩, PV, HB⟩
  case round =>
    clear PV HB
    obtain ⟨i, all1, rfl, hi, HK, LA, PV, HB⟩ := hrel
    by_cases hlt : i < l.length
    · obtain ⟨y, hy⟩ : ∃ y, y = l[i] := ⟨_, rfl⟩
      have YM : Aside0 (y ∈ l) := ⟨by rw [hy]; exact List.getElem_mem hlt⟩
      obtain ⟨ad, Y2, e2, Y5, e5, Y6, e6, eA, ny, se⟩ := elemS HL.out i y (by rw [hy, List.getElem?_eq_getElem hlt])
      subst eA
      have NX := Aside0.mk ny
      have SE0 := Aside0.mk se
      have TB := Aside0.mk (OZ.out y YM.out)
      have FX := Aside0.mk (fin_tb TB.out)
      have OK := Aside0.mk (okT_of_tb TB.out)
      have PB := Aside0.mk (Nat.le_trans (pre_tb y) TB.out)
      obtain ⟨cz, hcz⟩ : ∃ z : Int, wrap64 (pre y).length = z := ⟨_, rfl⟩
      have CZ := Aside0.mk hcz
      have CZ2 : Aside0 (cz = ((pre y).length : Int)) := ⟨by rw [← hcz, wrap_small _ (by omega) (by have := PB.out; omega)]⟩
      clear ny se hy hcz
      obtain ⟨hy0, hy1, hy2, hy3, hy4, hy5, hy6⟩ := SE0.out.below HB.out
      by_cases cx : (pre y).length ≤ 150
      · have CX := Aside0.mk cx
        obtain ⟨⟨n, all2⟩, hpv⟩ : ∃ r, refV y all1 = r := ⟨_, rfl⟩
        obtain ⟨p1, p2, p3, p4, p5, p6, p7⟩ := twice_plain y all1 all2 n PV.out.full hpv
        have E1 := Aside0.mk hpv
        have E2 := Aside0.mk p1
        have L1 : Aside0 (all1.length + (pre y).length ≤ 1000000) := ⟨by have := LA.out; have := L4.out; omega⟩
        have LB : Aside0 (all2.length ≤ 150 * (i + 1)) := ⟨by have := LA.out; omega⟩
        have L2 : Aside0 (all2.length + (pre y).length ≤ 1000000) := ⟨by have := LB.out; have := L4.out; omega⟩
        obtain ⟨nz, hnz⟩ : ∃ z : Int, (n : Int) = z := ⟨_, rfl⟩
        obtain ⟨lz1, hz1⟩ : ∃ z : Int, (all1.length : Int) = z := ⟨_, rfl⟩
        obtain ⟨lz2, hz2⟩ : ∃ z : Int, (all2.length : Int) = z := ⟨_, rfl⟩
        have t150 : decide (150 < cz) = false := decide_eq_false (by have := CZ2.out; omega)
        have t1 : decide (lz2 < lz1) = false := decide_eq_false (by omega)
        have t2 : decide (cz < wrap64 (lz2 - lz1)) = false := decide_eq_false (by have := CZ2.out; have := L1.out; have := L2.out; rw [wrap_small _ (by omega) (by omega)]; omega)
        have t3 : decide (nz < 1) = false := decide_eq_false (by omega)
        have t4 : decide (lz2 < nz) = false := decide_eq_false (by omega)
        have HNZ := Aside0.mk hnz
        have LZ1 := Aside0.mk hz1
        have LZ2 := Aside0.mk hz2
        have PG := Aside0.mk p7
        have SZ : Aside0 (cntOf all2 nz = cz) := ⟨by rw [← hnz, p6, CZ2.out]⟩
        clear cx hpv p1 p2 p3 p4 p5 p6 p7 hnz hz1 hz2
        go_upto_region 15 with (first | ((with_reducible refine gate_dst (N := 28) rfl ?_); refine goesL_ (some 28) rfl rfl Tryd.func9 (by kernel_rfl) rfl #[.agg #[.int .i64 y.f0, .string y.f1, .slice Y2 y.f2.length e2, .bool y.f3, .bool y.f4, .slice Y5 y.f5.length e5, .slice Y6 y.f6.length e6]] rfl (by (try simp only [List.map_toArray, List.map_cons, List.map_nil]); first | done | rfl) ?_; (refine (cnt9_of cz (NX.out.old HB.out).nd FX.out CZ.out).mono ?_); (rintro e w9 ⟨rfl, hb⟩; refine ⟨_, rfl, ?_⟩; have n0 := Aside0.mk (PV.out.below hb); have n1 := Aside0.mk (below_step HB.out hb); clear PV HB hb; have PV := n0; have HB := n1; clear n0 n1; clear hy0 hy1 hy2 hy3 hy4 hy5 hy6; obtain ⟨hy0, hy1, hy2, hy3, hy4, hy5, hy6⟩ := SE0.out.below HB.out)) | ((with_reducible refine gate_dst (N := 33) rfl ?_); refine goesL_ (some 33) rfl rfl Tryd.func12 (by kernel_rfl) rfl #[.pointer (some ⟨ga, 0, none⟩)] rfl (by (try simp only [List.map_toArray, List.map_cons, List.map_nil]); first | done | rfl) ?_; (refine (len_law lz1 PV.out LZ1.out).mono ?_); (rintro e w9 ⟨rfl, rfl⟩; refine ⟨_, rfl, ?_⟩; skip)) | ((with_reducible refine gate_dst (N := 39) rfl ?_); refine goesL_ (some 39) rfl rfl Tryd.func10 (by kernel_rfl) rfl #[.pointer (some ⟨ga, 0, none⟩), .agg #[.int .i64 y.f0, .string y.f1, .slice Y2 y.f2.length e2, .bool y.f3, .bool y.f4, .slice Y5 y.f5.length e5, .slice Y6 y.f6.length e6]] rfl (by (try simp only [List.map_toArray, List.map_cons, List.map_nil]); first | done | rfl) ?_; (refine (put_law PV.out (HT.out.on HB.out) (NX.out.old HB.out) (fun k hk => Or.inl hk) OK.out L1.out E1.out).mono ?_); (rintro e w9 ⟨rfl, hp, hf⟩; refine ⟨_, rfl, ?_⟩; rw [HNZ.out]; have n0 := Aside0.mk hp; have n1 := Aside0.mk (HB.out.trans hf.below); clear PV HB hp hf; have PV := n0; have HB := n1; clear n0 n1; clear hy0 hy1 hy2 hy3 hy4 hy5 hy6; obtain ⟨hy0, hy1, hy2, hy3, hy4, hy5, hy6⟩ := SE0.out.below HB.out)) | ((with_reducible refine gate_dst (N := 41) rfl ?_); refine goesL_ (some 41) rfl rfl Tryd.func12 (by kernel_rfl) rfl #[.pointer (some ⟨ga, 0, none⟩)] rfl (by (try simp only [List.map_toArray, List.map_cons, List.map_nil]); first | done | rfl) ?_; (refine (len_law lz2 PV.out LZ2.out).mono ?_); (rintro e w9 ⟨rfl, rfl⟩; refine ⟨_, rfl, ?_⟩; skip)))
        clear hy0 hy1 hy2 hy3 hy4 hy5 hy6
        have n0 := Aside0.mk (PV.out.below (below_drew1 (Below.refl _ _)))
        have n1 := Aside0.mk (below_step HB.out (below_drew1 (Below.refl _ _)))
        clear PV HB
        have PV := n0
        have HB := n1
        clear n0 n1
        refine start_ (n := 50) (S := SE ad i y Y2 e2 Y5 e5 Y6 e6) (ds := []) #[false, false, false, false, false, false, false, false, false, false, false, false, false, false, false, false, false, false, false, false, false, false, false, false, false, false, false, false, false, false, false, false, false, false, false, false, false, false, false, false, false, false, false, false, false, false, false, false, false, false] (by kernel_rfl) rfl rfl ((SE0.out.below HB.out)) (fun hHeld => ?_)
        generalize World.drew _ = w500 at PV HB hHeld ⊢
        refine pure_ (i := 0) (N := some 42) (v := ?_) (a' := ?_) #[true, false, false, false, false, false, false, false, false, false, false, false, false, false, false, false, false, false, false, false, false, false, false, false, false, false, false, false, false, false, false, false, false, false, false, false, false, false, false, false, false, false, false, false, false, false, false, false, false, false] rfl rfl (any_of (md := .any) (ops := opsOf Tryd.f5 15) F5tab15 (by kernel_rfl)) (fun _ _ _ h => h) (Or.inl ⟨by rfl, ?_⟩) ?_ ?_
        rotate_left
        · intro w'
          go_simp
          with_reducible rfl
        rotate_left
        · simp only [Act.put, List.setIfInBounds_toArray, List.set_cons_zero, List.set_cons_succ, i64_w, i32_w]
          rfl
        refine pure_ (i := 1) (N := some 43) (v := ?_) (a' := ?_) #[true, true, false, false, false, false, false, false, false, false, false, false, false, false, false, false, false, false, false, false, false, false, false, false, false, false, false, false, false, false, false, false, false, false, false, false, false, false, false, false, false, false, false, false, false, false, false, false, false, false] rfl rfl (any_of (md := .any) (ops := opsOf Tryd.f5 15) F5tab15 (by kernel_rfl)) (fun _ _ _ h => h) (Or.inl ⟨by rfl, ?_⟩) ?_ ?_
        rotate_left
        · intro w'
          go_simp
          with_reducible rfl
        rotate_left
        · simp only [Act.put, List.setIfInBounds_toArray, List.set_cons_zero, List.set_cons_succ, i64_w, i32_w]
          rfl
        refine pure_ (i := 2) (N := some 44) (v := ?_) (a' := ?_) #[true, true, true, false, false, false, false, false, false, false, false, false, false, false, false, false, false, false, false, false, false, false, false, false, false, false, false, false, false, false, false, false, false, false, false, false, false, false, false, false, false, false, false, false, false, false, false, false, false, false] rfl rfl (any_of (md := .any) (ops := opsOf Tryd.f5 15) F5tab15 (by kernel_rfl)) (fun _ _ _ h => h) (Or.inl ⟨by rfl, ?_⟩) ?_ ?_
        rotate_left
        · intro w'
          go_simp
          with_reducible rfl
        rotate_left
        · simp only [Act.put, List.setIfInBounds_toArray, List.set_cons_zero, List.set_cons_succ, i64_w, i32_w]
          rfl
        refine pure_ (i := 3) (N := some 45) (v := ?_) (a' := ?_) #[true, true, true, true, false, false, false, false, false, false, false, false, false, false, false, false, false, false, false, false, false, false, false, false, false, false, false, false, false, false, false, false, false, false, false, false, false, false, false, false, false, false, false, false, false, false, false, false, false, false] rfl rfl (any_of (md := .any) (ops := opsOf Tryd.f5 15) F5tab15 (by kernel_rfl)) (fun _ _ _ h => h) (Or.inl ⟨by rfl, ?_⟩) ?_ ?_
        rotate_left
        · intro w'
          go_simp
          with_reducible rfl
        rotate_left
        · simp only [Act.put, List.setIfInBounds_toArray, List.set_cons_zero, List.set_cons_succ, i64_w, i32_w]
          rfl
        refine pure_ (i := 4) (N := some 46) (v := ?_) (a' := ?_) #[true, true, true, true, true, false, false, false, false, false, false, false, false, false, false, false, false, false, false, false, false, false, false, false, false, false, false, false, false, false, false, false, false, false, false, false, false, false, false, false, false, false, false, false, false, false, false, false, false, false] rfl rfl (any_of (md := .any) (ops := opsOf Tryd.f5 15) F5tab15 (by kernel_rfl)) (fun _ _ _ h => h) (Or.inl ⟨by rfl, ?_⟩) ?_ ?_
        rotate_left
        · intro w'
          go_simp
          with_reducible rfl
        rotate_left
        · simp only [Act.put, List.setIfInBounds_toArray, List.set_cons_zero, List.set_cons_succ, i64_w, i32_w]
          rfl
        refine pure_ (i := 5) (N := some 47) (v := ?_) (a' := ?_) #[true, true, true, true, true, true, false, false, false, false, false, false, false, false, false, false, false, false, false, false, false, false, false, false, false, false, false, false, false, false, false, false, false, false, false, false, false, false, false, false, false, false, false, false, false, false, false, false, false, false] rfl rfl (any_of (md := .any) (ops := opsOf Tryd.f5 15) F5tab15 (by kernel_rfl)) (fun _ _ _ h => h) (Or.inl ⟨by rfl, ?_⟩) ?_ ?_
        rotate_left
        · intro w'
          go_simp
          with_reducible rfl
        rotate_left
        · simp only [Act.put, List.setIfInBounds_toArray, List.set_cons_zero, List.set_cons_succ, i64_w, i32_w]
          rfl
        refine pure_ (i := 6) (N := some 48) (v := ?_) (a' := ?_) #[true, true, true, true, true, true, true, false, false, false, false, false, false, false, false, false, false, false, false, false, false, false, false, false, false, false, false, false, false, false, false, false, false, false, false, false, false, false, false, false, false, false, false, false, false, false, false, false, false, false] rfl rfl (any_of (md := .any) (ops := opsOf Tryd.f5 15) F5tab15 (by kernel_rfl)) (fun _ _ _ h => h) (Or.inl ⟨by rfl, ?_⟩) ?_ ?_
        rotate_left
        · intro w'
          go_simp
          with_reducible rfl
        rotate_left
        · simp only [Act.put, List.setIfInBounds_toArray, List.set_cons_zero, List.set_cons_succ, i64_w, i32_w]
          rfl
        refine pure_ (i := 7) (N := some 49) (v := ?_) (a' := ?_) #[true, true, true, true, true, true, true, true, false, false, false, false, false, false, false, false, false, false, false, false, false, false, false, false, false, false, false, false, false, false, false, false, false, false, false, false, false, false, false, false, false, false, false, false, false, false, false, false, false, false] rfl rfl (any_of (md := .any) (ops := opsOf Tryd.f5 15) F5tab15 (by kernel_rfl)) (fun _ _ _ h => h) (Or.inl ⟨by rfl, ?_⟩) ?_ ?_
        rotate_left
        · intro w'
          go_simp
          with_reducible rfl
        rotate_left
        · simp only [Act.put, List.setIfInBounds_toArray, List.set_cons_zero, List.set_cons_succ, i64_w, i32_w]
          rfl
        refine pure_ (i := 8) (N := some 50) (v := ?_) (a' := ?_) #[true, true, true, true, true, true, true, true, true, false, false, false, false, false, false, false, false, false, false, false, false, false, false, false, false, false, false, false, false, false, false, false, false, false, false, false, false, false, false, false, false, false, false, false, false, false, false, false, false, false] rfl rfl (any_of (md := .any) (ops := opsOf Tryd.f5 15) F5tab15 (by kernel_rfl)) (fun _ _ _ h => h) (Or.inl ⟨by rfl, ?_⟩) ?_ ?_
        rotate_left
        · intro w'
          go_simp
          with_reducible rfl
        rotate_left
        · simp only [Act.put, List.setIfInBounds_toArray, List.set_cons_zero, List.set_cons_succ, i64_w, i32_w]
          rfl
        refine pure_ (i := 9) (N := some 51) (v := ?_) (a' := ?_) #[true, true, true, true, true, true, true, true, true, true, false, false, false, false, false, false, false, false, false, false, false, false, false, false, false, false, false, false, false, false, false, false, false, false, false, false, false, false, false, false, false, false, false, false, false, false, false, false, false, false] rfl rfl (any_of (md := .any) (ops := opsOf Tryd.f5 15) F5tab15 (by kernel_rfl)) (fun _ _ _ h => h) (Or.inl ⟨by rfl, ?_⟩) ?_ ?_
        rotate_left
        · intro w'
          go_simp
          with_reducible rfl
        rotate_left
        · simp only [Act.put, List.setIfInBounds_toArray, List.set_cons_zero, List.set_cons_succ, i64_w, i32_w]
          rfl
        refine take_ (i := 10) (N := some 52) (v := ?_) (a' := ?_) #[true, true, true, true, true, true, true, true, true, true, true, false, false, false, false, false, false, false, false, false, false, false, false, false, false, false, false, false, false, false, false, false, false, false, false, false, false, false, false, false, false, false, false, false, false, false, false, false, false, false] rfl rfl (take_of (md := .any) (ops := opsOf Tryd.f5 15) F5tab15 (by kernel_rfl)) (fun _ _ _ h => h) (Or.inl ⟨by rfl, ?_⟩) hHeld ?_ ?_
        rotate_left
        · rintro w' ⟨s0, s1, s2, s3, s4, s5, s6⟩
          go_simp
          with_reducible rfl
        rotate_left
        · simp only [Act.put, List.setIfInBounds_toArray, List.set_cons_zero, List.set_cons_succ, i64_w, i32_w]
          rfl
        refine one_ (i := 11) (N := some 53) #[true, true, true, true, true, true, true, true, true, true, true, true, false, false, false, false, false, false, false, false, false, false, false, false, false, false, false, false, false, false, false, false, false, false, false, false, false, false, false, false, false, false, false, false, false, false, false, false, false, false] rfl rfl (one_of (md := .any) (ops := opsOf Tryd.f5 15) F5tab15 (by kernel_rfl)) (by decide) (fun K hK => ?_)
        refine goes_ Tryd.func9 (by kernel_rfl) rfl #[.agg #[.int .i64 y.f0, .string y.f1, .slice Y2 y.f2.length e2, .bool y.f3, .bool y.f4, .slice Y5 y.f5.length e5, .slice Y6 y.f6.length e6]] (by rfl) rfl rfl (by (try simp only [List.map_toArray, List.map_cons, List.map_nil]); first | done | rfl) ?_
        refine (cnt9_of cz (NX.out.old HB.out).nd FX.out CZ.out).mono ?_
        rintro e w501 ⟨rfl, hb⟩
        refine ⟨_, rfl, ?_⟩
        have n0 := Aside0.mk (PV.out.below hb); have n1 := Aside0.mk (below_step HB.out hb); clear PV HB hb; have PV := n0; have HB := n1; clear n0 n1
        refine hK.out _ _ (SE0.out.below HB.out) (fun hHeld => ?_)
        clear hK K
        refine norm_ (a' := ?_) ?_ ?_
        rotate_left
        · show Act.put _ (some 53) _ = _
          simp only [Act.put, List.setIfInBounds_toArray, List.set_cons_zero, List.set_cons_succ, i64_w, i32_w]
          rfl
        refine pure_ (i := 12) (N := some 54) (v := ?_) (a' := ?_) #[true, true, true, true, true, true, true, true, true, true, true, true, true, false, false, false, false, false, false, false, false, false, false, false, false, false, false, false, false, false, false, false, false, false, false, false, false, false, false, false, false, false, false, false, false, false, false, false, false, false] rfl rfl (any_of (md := .any) (ops := opsOf Tryd.f5 15) F5tab15 (by kernel_rfl)) (fun _ _ _ h => h) (Or.inl ⟨by rfl, ?_⟩) ?_ ?_
        rotate_left
        · intro w'
          go_simp
          with_reducible rfl
        rotate_left
        · simp only [Act.put, List.setIfInBounds_toArray, List.set_cons_zero, List.set_cons_succ, i64_w, i32_w]
          rfl
        refine pure_ (i := 13) (N := some 55) (v := ?_) (a' := ?_) #[true, true, true, true, true, true, true, true, true, true, true, true, true, true, false, false, false, false, false, false, false, false, false, false, false, false, false, false, false, false, false, false, false, false, false, false, false, false, false, false, false, false, false, false, false, false, false, false, false, false] rfl rfl (any_of (md := .any) (ops := opsOf Tryd.f5 15) F5tab15 (by kernel_rfl)) (fun _ _ _ h => h) (Or.inl ⟨by rfl, ?_⟩) ?_ ?_
        rotate_left
        · intro w'
          go_simp
          with_reducible rfl
        rotate_left
        · simp only [Act.put, List.setIfInBounds_toArray, List.set_cons_zero, List.set_cons_succ, i64_w, i32_w]
          rfl
        refine pure_ (i := 14) (N := some 56) (v := ?_) (a' := ?_) #[true, true, true, true, true, true, true, true, true, true, true, true, true, true, true, false, false, false, false, false, false, false, false, false, false, false, false, false, false, false, false, false, false, false, false, false, false, false, false, false, false, false, false, false, false, false, false, false, false, false] rfl rfl (any_of (md := .any) (ops := opsOf Tryd.f5 15) F5tab15 (by kernel_rfl)) (fun _ _ _ h => h) (Or.inl ⟨by rfl, ?_⟩) ?_ ?_
        rotate_left
        · intro w'
          go_simp
          with_reducible rfl
        rotate_left
        · simp only [Act.put, List.setIfInBounds_toArray, List.set_cons_zero, List.set_cons_succ, i64_w, i32_w]
          rfl
        refine pure_ (i := 15) (N := some 57) (v := ?_) (a' := ?_) #[true, true, true, true, true, true, true, true, true, true, true, true, true, true, true, true, false, false, false, false, false, false, false, false, false, false, false, false, false, false, false, false, false, false, false, false, false, false, false, false, false, false, false, false, false, false, false, false, false, false] rfl rfl (any_of (md := .any) (ops := opsOf Tryd.f5 15) F5tab15 (by kernel_rfl)) (fun _ _ _ h => h) (Or.inl ⟨by rfl, ?_⟩) ?_ ?_
        rotate_left
        · intro w'
          go_simp
          with_reducible rfl
        rotate_left
        · simp only [Act.put, List.setIfInBounds_toArray, List.set_cons_zero, List.set_cons_succ, i64_w, i32_w]
          rfl
        refine pure_ (i := 16) (N := some 58) (v := ?_) (a' := ?_) #[true, true, true, true, true, true, true, true, true, true, true, true, true, true, true, true, true, false, false, false, false, false, false, false, false, false, false, false, false, false, false, false, false, false, false, false, false, false, false, false, false, false, false, false, false, false, false, false, false, false] rfl rfl (any_of (md := .any) (ops := opsOf Tryd.f5 15) F5tab15 (by kernel_rfl)) (fun _ _ _ h => h) (Or.inl ⟨by rfl, ?_⟩) ?_ ?_
        rotate_left
        · intro w'
          go_simp
          with_reducible rfl
        rotate_left
        · simp only [Act.put, List.setIfInBounds_toArray, List.set_cons_zero, List.set_cons_succ, i64_w, i32_w]
          rfl
        refine pure_ (i := 17) (N := some 59) (v := ?_) (a' := ?_) #[true, true, true, true, true, true, true, true, true, true, true, true, true, true, true, true, true, true, false, false, false, false, false, false, false, false, false, false, false, false, false, false, false, false, false, false, false, false, false, false, false, false, false, false, false, false, false, false, false, false] rfl rfl (any_of (md := .any) (ops := opsOf Tryd.f5 15) F5tab15 (by kernel_rfl)) (fun _ _ _ h => h) (Or.inl ⟨by rfl, ?_⟩) ?_ ?_
        rotate_left
        · intro w'
          go_simp
          with_reducible rfl
        rotate_left
        · simp only [Act.put, List.setIfInBounds_toArray, List.set_cons_zero, List.set_cons_succ, i64_w, i32_w]
          rfl
        refine pure_ (i := 18) (N := some 60) (v := ?_) (a' := ?_) #[true, true, true, true, true, true, true, true, true, true, true, true, true, true, true, true, true, true, true, false, false, false, false, false, false, false, false, false, false, false, false, false, false, false, false, false, false, false, false, false, false, false, false, false, false, false, false, false, false, false] rfl rfl (any_of (md := .any) (ops := opsOf Tryd.f5 15) F5tab15 (by kernel_rfl)) (fun _ _ _ h => h) (Or.inl ⟨by rfl, ?_⟩) ?_ ?_
        rotate_left
        · intro w'
          go_simp
          with_reducible rfl
        rotate_left
        · simp only [Act.put, List.setIfInBounds_toArray, List.set_cons_zero, List.set_cons_succ, i64_w, i32_w]
          rfl
        refine pure_ (i := 19) (N := some 61) (v := ?_) (a' := ?_) #[true, true, true, true, true, true, true, true, true, true, true, true, true, true, true, true, true, true, true, true, false, false, false, false, false, false, false, false, false, false, false, false, false, false, false, false, false, false, false, false, false, false, false, false, false, false, false, false, false, false] rfl rfl (any_of (md := .any) (ops := opsOf Tryd.f5 15) F5tab15 (by kernel_rfl)) (fun _ _ _ h => h) (Or.inl ⟨by rfl, ?_⟩) ?_ ?_
        rotate_left
        · intro w'
          go_simp
          with_reducible rfl
        rotate_left
        · simp only [Act.put, List.setIfInBounds_toArray, List.set_cons_zero, List.set_cons_succ, i64_w, i32_w]
          rfl
        refine pure_ (i := 20) (N := some 62) (v := ?_) (a' := ?_) #[true, true, true, true, true, true, true, true, true, true, true, true, true, true, true, true, true, true, true, true, true, false, false, false, false, false, false, false, false, false, false, false, false, false, false, false, false, false, false, false, false, false, false, false, false, false, false, false, false, false] rfl rfl (any_of (md := .any) (ops := opsOf Tryd.f5 15) F5tab15 (by kernel_rfl)) (fun _ _ _ h => h) (Or.inl ⟨by rfl, ?_⟩) ?_ ?_
        rotate_left
        · intro w'
          go_simp
          with_reducible rfl
        rotate_left
        · simp only [Act.put, List.setIfInBounds_toArray, List.set_cons_zero, List.set_cons_succ, i64_w, i32_w]
          rfl
        refine pure_ (i := 21) (N := some 63) (v := ?_) (a' := ?_) #[true, true, true, true, true, true, true, true, true, true, true, true, true, true, true, true, true, true, true, true, true, true, false, false, false, false, false, false, false, false, false, false, false, false, false, false, false, false, false, false, false, false, false, false, false, false, false, false, false, false] rfl rfl (any_of (md := .any) (ops := opsOf Tryd.f5 15) F5tab15 (by kernel_rfl)) (fun _ _ _ h => h) (Or.inl ⟨by rfl, ?_⟩) ?_ ?_
        rotate_left
        · intro w'
          go_simp
          with_reducible rfl
        rotate_left
        · simp only [Act.put, List.setIfInBounds_toArray, List.set_cons_zero, List.set_cons_succ, i64_w, i32_w]
          rfl
        refine pure_ (i := 22) (N := some 64) (v := ?_) (a' := ?_) #[true, true, true, true, true, true, true, true, true, true, true, true, true, true, true, true, true, true, true, true, true, true, true, false, false, false, false, false, false, false, false, false, false, false, false, false, false, false, false, false, false, false, false, false, false, false, false, false, false, false] rfl rfl (any_of (md := .any) (ops := opsOf Tryd.f5 15) F5tab15 (by kernel_rfl)) (fun _ _ _ h => h) (Or.inl ⟨by rfl, ?_⟩) ?_ ?_
        rotate_left
        · intro w'
          go_simp
          with_reducible rfl
        rotate_left
        · simp only [Act.put, List.setIfInBounds_toArray, List.set_cons_zero, List.set_cons_succ, i64_w, i32_w]
          rfl
        refine pure_ (i := 23) (N := some 65) (v := ?_) (a' := ?_) #[true, true, true, true, true, true, true, true, true, true, true, true, true, true, true, true, true, true, true, true, true, true, true, true, false, false, false, false, false, false, false, false, false, false, false, false, false, false, false, false, false, false, false, false, false, false, false, false, false, false] rfl rfl (any_of (md := .any) (ops := opsOf Tryd.f5 15) F5tab15 (by kernel_rfl)) (fun _ _ _ h => h) (Or.inl ⟨by rfl, ?_⟩) ?_ ?_
        rotate_left
        · intro w'
          go_simp
          with_reducible rfl
        rotate_left
        · simp only [Act.put, List.setIfInBounds_toArray, List.set_cons_zero, List.set_cons_succ, i64_w, i32_w]
          rfl
        refine pure_ (i := 24) (N := some 66) (v := ?_) (a' := ?_) #[true, true, true, true, true, true, true, true, true, true, true, true, true, true, true, true, true, true, true, true, true, true, true, true, true, false, false, false, false, false, false, false, false, false, false, false, false, false, false, false, false, false, false, false, false, false, false, false, false, false] rfl rfl (any_of (md := .any) (ops := opsOf Tryd.f5 15) F5tab15 (by kernel_rfl)) (fun _ _ _ h => h) (Or.inl ⟨by rfl, ?_⟩) ?_ ?_
        rotate_left
        · intro w'
          go_simp
          with_reducible rfl
        rotate_left
        · simp only [Act.put, List.setIfInBounds_toArray, List.set_cons_zero, List.set_cons_succ, i64_w, i32_w]
          rfl
        refine pure_ (i := 25) (N := some 67) (v := ?_) (a' := ?_) #[true, true, true, true, true, true, true, true, true, true, true, true, true, true, true, true, true, true, true, true, true, true, true, true, true, true, false, false, false, false, false, false, false, false, false, false, false, false, false, false, false, false, false, false, false, false, false, false, false, false] rfl rfl (any_of (md := .any) (ops := opsOf Tryd.f5 15) F5tab15 (by kernel_rfl)) (fun _ _ _ h => h) (Or.inl ⟨by rfl, ?_⟩) ?_ ?_
        rotate_left
        · intro w'
          go_simp
          with_reducible rfl
        rotate_left
        · simp only [Act.put, List.setIfInBounds_toArray, List.set_cons_zero, List.set_cons_succ, i64_w, i32_w]
          rfl
        refine pure_ (i := 26) (N := some 68) (v := ?_) (a' := ?_) #[true, true, true, true, true, true, true, true, true, true, true, true, true, true, true, true, true, true, true, true, true, true, true, true, true, true, true, false, false, false, false, false, false, false, false, false, false, false, false, false, false, false, false, false, false, false, false, false, false, false] rfl rfl (any_of (md := .any) (ops := opsOf Tryd.f5 15) F5tab15 (by kernel_rfl)) (fun _ _ _ h => h) (Or.inl ⟨by rfl, ?_⟩) ?_ ?_
        rotate_left
        · intro w'
          go_simp
          with_reducible rfl
        rotate_left
        · simp only [Act.put, List.setIfInBounds_toArray, List.set_cons_zero, List.set_cons_succ, i64_w, i32_w]
          rfl
        refine pure_ (i := 27) (N := some 69) (v := ?_) (a' := ?_) #[true, true, true, true, true, true, true, true, true, true, true, true, true, true, true, true, true, true, true, true, true, true, true, true, true, true, true, true, false, false, false, false, false, false, false, false, false, false, false, false, false, false, false, false, false, false, false, false, false, false] rfl rfl (any_of (md := .any) (ops := opsOf Tryd.f5 15) F5tab15 (by kernel_rfl)) (fun _ _ _ h => h) (Or.inl ⟨by rfl, ?_⟩) ?_ ?_
        rotate_left
        · intro w'
          go_simp
          with_reducible rfl
        rotate_left
        · simp only [Act.put, List.setIfInBounds_toArray, List.set_cons_zero, List.set_cons_succ, i64_w, i32_w]
          rfl
        refine take_ (i := 28) (N := some 70) (v := ?_) (a' := ?_) #[true, true, true, true, true, true, true, true, true, true, true, true, true, true, true, true, true, true, true, true, true, true, true, true, true, true, true, true, true, false, false, false, false, false, false, false, false, false, false, false, false, false, false, false, false, false, false, false, false, false] rfl rfl (take_of (md := .any) (ops := opsOf Tryd.f5 15) F5tab15 (by kernel_rfl)) (fun _ _ _ h => h) (Or.inl ⟨by rfl, ?_⟩) hHeld ?_ ?_
        rotate_left
        · rintro w' ⟨s0, s1, s2, s3, s4, s5, s6⟩
          go_simp
          with_reducible rfl
        rotate_left
        · simp only [Act.put, List.setIfInBounds_toArray, List.set_cons_zero, List.set_cons_succ, i64_w, i32_w]
          rfl
        refine pure_ (i := 30) (N := some 72) (v := ?_) (a' := ?_) #[true, true, true, true, true, true, true, true, true, true, true, true, true, true, true, true, true, true, true, true, true, true, true, true, true, true, true, true, true, false, true, false, false, false, false, false, false, false, false, false, false, false, false, false, false, false, false, false, false, false] rfl rfl (any_of (md := .any) (ops := opsOf Tryd.f5 15) F5tab15 (by kernel_rfl)) (fun _ _ _ h => h) (Or.inl ⟨by rfl, ?_⟩) ?_ ?_
        rotate_left
        · intro w'
          go_simp
          with_reducible rfl
        rotate_left
        · simp only [Act.put, List.setIfInBounds_toArray, List.set_cons_zero, List.set_cons_succ, i64_w, i32_w]
          rfl
        refine one_ (i := 29) (N := some 71) #[true, true, true, true, true, true, true, true, true, true, true, true, true, true, true, true, true, true, true, true, true, true, true, true, true, true, true, true, true, true, true, false, false, false, false, false, false, false, false, false, false, false, false, false, false, false, false, false, false, false] rfl rfl (one_of (md := .any) (ops := opsOf Tryd.f5 15) F5tab15 (by kernel_rfl)) (by decide) (fun K hK => ?_)
        refine goes_ Tryd.func10 (by kernel_rfl) rfl #[.pointer (some ⟨ga, 0, none⟩), .agg #[.int .i64 y.f0, .string y.f1, .slice Y2 y.f2.length e2, .bool y.f3, .bool y.f4, .slice Y5 y.f5.length e5, .slice Y6 y.f6.length e6]] (by rfl) rfl rfl (by (try simp only [List.map_toArray, List.map_cons, List.map_nil]); first | done | rfl) ?_
        refine (put_law PV.out (HT.out.on HB.out) (NX.out.old HB.out) (fun k hk => Or.inl hk) OK.out L2.out E2.out).mono ?_
        rintro e w502 ⟨rfl, hp, hf⟩
        refine ⟨_, rfl, ?_⟩
        rw [HNZ.out]; have n0 := Aside0.mk hp; have n1 := Aside0.mk (HB.out.trans hf.below); clear PV HB hp hf; have PV := n0; have HB := n1; clear n0 n1
        refine hK.out _ _ (SE0.out.below HB.out) (fun hHeld => ?_)
        clear hK K
        refine norm_ (a' := ?_) ?_ ?_
        rotate_left
        · show Act.put _ (some 71) _ = _
          simp only [Act.put, List.setIfInBounds_toArray, List.set_cons_zero, List.set_cons_succ, i64_w, i32_w]
          rfl
        refine pure_ (i := 31) (N := some 73) (v := ?_) (a' := ?_) #[true, true, true, true, true, true, true, true, true, true, true, true, true, true, true, true, true, true, true, true, true, true, true, true, true, true, true, true, true, true, true, true, false, false, false, false, false, false, false, false, false, false, false, false, false, false, false, false, false, false] rfl rfl (any_of (md := .any) (ops := opsOf Tryd.f5 15) F5tab15 (by kernel_rfl)) (fun _ _ _ h => h) (Or.inl ⟨by rfl, ?_⟩) ?_ ?_
        rotate_left
        · intro w'
          go_simp
          with_reducible rfl
        rotate_left
        · simp only [Act.put, List.setIfInBounds_toArray, List.set_cons_zero, List.set_cons_succ, i64_w, i32_w]
          rfl
        refine pure_ (i := 32) (N := some 74) (v := ?_) (a' := ?_) #[true, true, true, true, true, true, true, true, true, true, true, true, true, true, true, true, true, true, true, true, true, true, true, true, true, true, true, true, true, true, true, true, true, false, false, false, false, false, false, false, false, false, false, false, false, false, false, false, false, false] rfl rfl (any_of (md := .any) (ops := opsOf Tryd.f5 15) F5tab15 (by kernel_rfl)) (fun _ _ _ h => h) (Or.inl ⟨by rfl, ?_⟩) ?_ ?_
        rotate_left
        · intro w'
          go_simp
          with_reducible rfl
        rotate_left
        · simp only [Act.put, List.setIfInBounds_toArray, List.set_cons_zero, List.set_cons_succ, i64_w, i32_w]
          rfl
        refine pure_ (i := 33) (N := some 75) (v := ?_) (a' := ?_) #[true, true, true, true, true, true, true, true, true, true, true, true, true, true, true, true, true, true, true, true, true, true, true, true, true, true, true, true, true, true, true, true, true, true, false, false, false, false, false, false, false, false, false, false, false, false, false, false, false, false] rfl rfl (any_of (md := .any) (ops := opsOf Tryd.f5 15) F5tab15 (by kernel_rfl)) (fun _ _ _ h => h) (Or.inl ⟨by rfl, ?_⟩) ?_ ?_
        rotate_left
        · intro w'
          go_simp
          with_reducible rfl
        rotate_left
        · simp only [Act.put, List.setIfInBounds_toArray, List.set_cons_zero, List.set_cons_succ, i64_w, i32_w]
          rfl
        refine pure_ (i := 34) (N := some 76) (v := ?_) (a' := ?_) #[true, true, true, true, true, true, true, true, true, true, true, true, true, true, true, true, true, true, true, true, true, true, true, true, true, true, true, true, true, true, true, true, true, true, true, false, false, false, false, false, false, false, false, false, false, false, false, false, false, false] rfl rfl (any_of (md := .any) (ops := opsOf Tryd.f5 15) F5tab15 (by kernel_rfl)) (fun _ _ _ h => h) (Or.inl ⟨by rfl, ?_⟩) ?_ ?_
        rotate_left
        · intro w'
          go_simp
          with_reducible rfl
        rotate_left
        · simp only [Act.put, List.setIfInBounds_toArray, List.set_cons_zero, List.set_cons_succ, i64_w, i32_w]
          rfl
        refine pure_ (i := 36) (N := some 78) (v := ?_) (a' := ?_) #[true, true, true, true, true, true, true, true, true, true, true, true, true, true, true, true, true, true, true, true, true, true, true, true, true, true, true, true, true, true, true, true, true, true, true, false, true, false, false, false, false, false, false, false, false, false, false, false, false, false] rfl rfl (any_of (md := .any) (ops := opsOf Tryd.f5 15) F5tab15 (by kernel_rfl)) (fun _ _ _ h => h) (Or.inl ⟨by rfl, ?_⟩) ?_ ?_
        rotate_left
        · intro w'
          go_simp
          with_reducible rfl
        rotate_left
        · simp only [Act.put, List.setIfInBounds_toArray, List.set_cons_zero, List.set_cons_succ, i64_w, i32_w]
          rfl
        refine one_ (i := 35) (N := some 77) #[true, true, true, true, true, true, true, true, true, true, true, true, true, true, true, true, true, true, true, true, true, true, true, true, true, true, true, true, true, true, true, true, true, true, true, true, true, false, false, false, false, false, false, false, false, false, false, false, false, false] rfl rfl (one_of (md := .any) (ops := opsOf Tryd.f5 15) F5tab15 (by kernel_rfl)) (by decide) (fun K hK => ?_)
        refine goes_ Tryd.func12 (by kernel_rfl) rfl #[.pointer (some ⟨ga, 0, none⟩)] (by rfl) rfl rfl (by (try simp only [List.map_toArray, List.map_cons, List.map_nil]); first | done | rfl) ?_
        refine (len_law lz2 PV.out LZ2.out).mono ?_
        rintro e w503 ⟨rfl, rfl⟩
        refine ⟨_, rfl, ?_⟩
        skip
        refine hK.out _ _ (hHeld) (fun hHeld => ?_)
        clear hK K
        refine norm_ (a' := ?_) ?_ ?_
        rotate_left
        · show Act.put _ (some 77) _ = _
          simp only [Act.put, List.setIfInBounds_toArray, List.set_cons_zero, List.set_cons_succ, i64_w, i32_w]
          rfl
        refine pure_ (i := 37) (N := some 79) (v := ?_) (a' := ?_) #[true, true, true, true, true, true, true, true, true, true, true, true, true, true, true, true, true, true, true, true, true, true, true, true, true, true, true, true, true, true, true, true, true, true, true, true, true, true, false, false, false, false, false, false, false, false, false, false, false, false] rfl rfl (any_of (md := .any) (ops := opsOf Tryd.f5 15) F5tab15 (by kernel_rfl)) (fun _ _ _ h => h) (Or.inl ⟨by rfl, ?_⟩) ?_ ?_
        rotate_left
        · intro w'
          go_simp
          with_reducible rfl
        rotate_left
        · simp only [Act.put, List.setIfInBounds_toArray, List.set_cons_zero, List.set_cons_succ, i64_w, i32_w]
          rfl
        refine pure_ (i := 38) (N := some 80) (v := ?_) (a' := ?_) #[true, true, true, true, true, true, true, true, true, true, true, true, true, true, true, true, true, true, true, true, true, true, true, true, true, true, true, true, true, true, true, true, true, true, true, true, true, true, true, false, false, false, false, false, false, false, false, false, false, false] rfl rfl (any_of (md := .any) (ops := opsOf Tryd.f5 15) F5tab15 (by kernel_rfl)) (fun _ _ _ h => h) (Or.inl ⟨by rfl, ?_⟩) ?_ ?_
        rotate_left
        · intro w'
          go_simp
          with_reducible rfl
        rotate_left
        · simp only [Act.put, List.setIfInBounds_toArray, List.set_cons_zero, List.set_cons_succ, i64_w, i32_w]
          rfl
        refine pure_ (i := 39) (N := some 81) (v := ?_) (a' := ?_) #[true, true, true, true, true, true, true, true, true, true, true, true, true, true, true, true, true, true, true, true, true, true, true, true, true, true, true, true, true, true, true, true, true, true, true, true, true, true, true, true, false, false, false, false, false, false, false, false, false, false] rfl rfl (any_of (md := .any) (ops := opsOf Tryd.f5 15) F5tab15 (by kernel_rfl)) (fun _ _ _ h => h) (Or.inl ⟨by rfl, ?_⟩) ?_ ?_
        rotate_left
        · intro w'
          go_simp
          with_reducible rfl
        rotate_left
        · simp only [Act.put, List.setIfInBounds_toArray, List.set_cons_zero, List.set_cons_succ, i64_w, i32_w]
          rfl
        refine pure_ (i := 40) (N := some 82) (v := ?_) (a' := ?_) #[true, true, true, true, true, true, true, true, true, true, true, true, true, true, true, true, true, true, true, true, true, true, true, true, true, true, true, true, true, true, true, true, true, true, true, true, true, true, true, true, true, false, false, false, false, false, false, false, false, false] rfl rfl (any_of (md := .any) (ops := opsOf Tryd.f5 15) F5tab15 (by kernel_rfl)) (fun _ _ _ h => h) (Or.inl ⟨by rfl, ?_⟩) ?_ ?_
        rotate_left
        · intro w'
          go_simp
          with_reducible rfl
        rotate_left
        · simp only [Act.put, List.setIfInBounds_toArray, List.set_cons_zero, List.set_cons_succ, i64_w, i32_w]
          rfl
        refine pure_ (i := 41) (N := some 83) (v := ?_) (a' := ?_) #[true, true, true, true, true, true, true, true, true, true, true, true, true, true, true, true, true, true, true, true, true, true, true, true, true, true, true, true, true, true, true, true, true, true, true, true, true, true, true, true, true, true, false, false, false, false, false, false, false, false] rfl rfl (any_of (md := .any) (ops := opsOf Tryd.f5 15) F5tab15 (by kernel_rfl)) (fun _ _ _ h => h) (Or.inl ⟨by rfl, ?_⟩) ?_ ?_
        rotate_left
        · intro w'
          go_simp
          with_reducible rfl
        rotate_left
        · simp only [Act.put, List.setIfInBounds_toArray, List.set_cons_zero, List.set_cons_succ, i64_w, i32_w]
          rfl
        refine pure_ (i := 43) (N := some 85) (v := ?_) (a' := ?_) #[true, true, true, true, true, true, true, true, true, true, true, true, true, true, true, true, true, true, true, true, true, true, true, true, true, true, true, true, true, true, true, true, true, true, true, true, true, true, true, true, true, true, false, true, false, false, false, false, false, false] rfl rfl (any_of (md := .any) (ops := opsOf Tryd.f5 15) F5tab15 (by kernel_rfl)) (fun _ _ _ h => h) (Or.inl ⟨by rfl, ?_⟩) ?_ ?_
        rotate_left
        · intro w'
          go_simp
          with_reducible rfl
        rotate_left
        · simp only [Act.put, List.setIfInBounds_toArray, List.set_cons_zero, List.set_cons_succ, i64_w, i32_w]
          rfl
        refine pure_ (i := 44) (N := some 86) (v := ?_) (a' := ?_) #[true, true, true, true, true, true, true, true, true, true, true, true, true, true, true, true, true, true, true, true, true, true, true, true, true, true, true, true, true, true, true, true, true, true, true, true, true, true, true, true, true, true, false, true, true, false, false, false, false, false] rfl rfl (any_of (md := .any) (ops := opsOf Tryd.f5 15) F5tab15 (by kernel_rfl)) (fun _ _ _ h => h) (Or.inl ⟨by rfl, ?_⟩) ?_ ?_
        rotate_left
        · intro w'
          go_simp
          with_reducible rfl
        rotate_left
        · simp only [Act.put, List.setIfInBounds_toArray, List.set_cons_zero, List.set_cons_succ, i64_w, i32_w]
          rfl
        refine pure_ (i := 45) (N := some 87) (v := ?_) (a' := ?_) #[true, true, true, true, true, true, true, true, true, true, true, true, true, true, true, true, true, true, true, true, true, true, true, true, true, true, true, true, true, true, true, true, true, true, true, true, true, true, true, true, true, true, false, true, true, true, false, false, false, false] rfl rfl (any_of (md := .any) (ops := opsOf Tryd.f5 15) F5tab15 (by kernel_rfl)) (fun _ _ _ h => h) (Or.inl ⟨by rfl, ?_⟩) ?_ ?_
        rotate_left
        · intro w'
          go_simp
          with_reducible rfl
        rotate_left
        · simp only [Act.put, List.setIfInBounds_toArray, List.set_cons_zero, List.set_cons_succ, i64_w, i32_w]
          rfl
        refine take_ (i := 46) (N := some 88) (v := ?_) (a' := ?_) #[true, true, true, true, true, true, true, true, true, true, true, true, true, true, true, true, true, true, true, true, true, true, true, true, true, true, true, true, true, true, true, true, true, true, true, true, true, true, true, true, true, true, false, true, true, true, true, false, false, false] rfl rfl (take_of (md := .any) (ops := opsOf Tryd.f5 15) F5tab15 (by kernel_rfl)) (fun _ _ _ h => h) (Or.inl ⟨by rfl, ?_⟩) hHeld ?_ ?_
        rotate_left
        · rintro w' ⟨s0, s1, s2, s3, s4, s5, s6⟩
          go_simp
          with_reducible rfl
        rotate_left
        · simp only [Act.put, List.setIfInBounds_toArray, List.set_cons_zero, List.set_cons_succ, i64_w, i32_w]
          rfl
        refine one_ (i := 42) (N := some 84) #[true, true, true, true, true, true, true, true, true, true, true, true, true, true, true, true, true, true, true, true, true, true, true, true, true, true, true, true, true, true, true, true, true, true, true, true, true, true, true, true, true, true, true, true, true, true, true, false, false, false] rfl rfl (one_of (md := .any) (ops := opsOf Tryd.f5 15) F5tab15 (by kernel_rfl)) (by decide) (fun K hK => ?_)
        refine goes_ Tryd.func13 (by kernel_rfl) rfl #[.pointer (some ⟨ga, 0, none⟩), .int .i64 nz] (by rfl) rfl rfl (by (try simp only [List.map_toArray, List.map_cons, List.map_nil]); first | done | rfl) ?_
        refine (size_law nz cz PV.out (by have := L2.out; omega) SZ.out).mono ?_
        rintro e w504 ⟨rfl, rfl⟩
        refine ⟨_, rfl, ?_⟩
        skip
        refine hK.out _ _ (hHeld) (fun hHeld => ?_)
        clear hK K
        refine norm_ (a' := ?_) ?_ ?_
        rotate_left
        · show Act.put _ (some 84) _ = _
          simp only [Act.put, List.setIfInBounds_toArray, List.set_cons_zero, List.set_cons_succ, i64_w, i32_w]
          rfl
        refine one_ (i := 47) (N := some 89) #[true, true, true, true, true, true, true, true, true, true, true, true, true, true, true, true, true, true, true, true, true, true, true, true, true, true, true, true, true, true, true, true, true, true, true, true, true, true, true, true, true, true, true, true, true, true, true, true, false, false] rfl rfl (one_of (md := .any) (ops := opsOf Tryd.f5 15) F5tab15 (by kernel_rfl)) (by decide) (fun K hK => ?_)
        refine goes_ Tryd.func9 (by kernel_rfl) rfl #[.agg #[.int .i64 y.f0, .string y.f1, .slice Y2 y.f2.length e2, .bool y.f3, .bool y.f4, .slice Y5 y.f5.length e5, .slice Y6 y.f6.length e6]] (by rfl) rfl rfl (by (try simp only [List.map_toArray, List.map_cons, List.map_nil]); first | done | rfl) ?_
        refine (cnt9_of cz (NX.out.old HB.out).nd FX.out CZ.out).mono ?_
        rintro e w505 ⟨rfl, hb⟩
        refine ⟨_, rfl, ?_⟩
        have n0 := Aside0.mk (PV.out.below hb); have n1 := Aside0.mk (below_step HB.out hb); clear PV HB hb; have PV := n0; have HB := n1; clear n0 n1
        refine hK.out _ _ (SE0.out.below HB.out) (fun hHeld => ?_)
        clear hK K
        refine norm_ (a' := ?_) ?_ ?_
        rotate_left
        · show Act.put _ (some 89) _ = _
          simp only [Act.put, List.setIfInBounds_toArray, List.set_cons_zero, List.set_cons_succ, i64_w, i32_w]
          rfl
        refine pure_ (i := 48) (N := some 90) (v := ?_) (a' := ?_) #[true, true, true, true, true, true, true, true, true, true, true, true, true, true, true, true, true, true, true, true, true, true, true, true, true, true, true, true, true, true, true, true, true, true, true, true, true, true, true, true, true, true, true, true, true, true, true, true, true, false] rfl rfl (any_of (md := .any) (ops := opsOf Tryd.f5 15) F5tab15 (by kernel_rfl)) (fun _ _ _ h => h) (Or.inl ⟨by rfl, ?_⟩) ?_ ?_
        rotate_left
        · intro w'
          go_simp
          with_reducible rfl
        rotate_left
        · simp only [Act.put, List.setIfInBounds_toArray, List.set_cons_zero, List.set_cons_succ, i64_w, i32_w]
          rfl
        refine pure_ (i := 49) (N := some 91) (v := ?_) (a' := ?_) #[true, true, true, true, true, true, true, true, true, true, true, true, true, true, true, true, true, true, true, true, true, true, true, true, true, true, true, true, true, true, true, true, true, true, true, true, true, true, true, true, true, true, true, true, true, true, true, true, true, true] rfl rfl (any_of (md := .any) (ops := opsOf Tryd.f5 15) F5tab15 (by kernel_rfl)) (fun _ _ _ h => h) (Or.inl ⟨by rfl, ?_⟩) ?_ ?_
        rotate_left
        · intro w'
          go_simp
          with_reducible rfl
        rotate_left
        · simp only [Act.put, List.setIfInBounds_toArray, List.set_cons_zero, List.set_cons_succ, i64_w, i32_w]
          rfl
        refine done_ (done_of (md := .any) (ops := opsOf Tryd.f5 15) F5tab15 (by kernel_rfl)) ?_
        clear hHeld
        obtain ⟨hy0, hy1, hy2, hy3, hy4, hy5, hy6⟩ := SE0.out.below HB.out
        go_wp2_with fail
        clear hy0 hy1 hy2 hy3 hy4 hy5 hy6
        have YB : (y.f2.length : Int) ≤ 150 := by have := CX.out; have e : (pre y).length = (preL y.f2).length + 1 := (by rw [pre_eq]; simp); have := len_le_pre y.f2; omega
        go_loopg [9, 10] y.f2.length (fun k' v9 v10 wr => ∃ j : Nat, v9 = .int .i64 j ∧ j ≤ y.f2.length ∧ Aside0 (k' + j = y.f2.length) ∧ Aside0 (PW wr w.heap.size ga gm all2) ∧ Aside0 (Below w.heap.size w wr))
        case atStart => exact ⟨0, rfl, Nat.zero_le _, ⟨rfl⟩, PV, HB⟩
        case round =>
          clear PV HB
          obtain ⟨j, rfl, hj, HJ, PV, HB⟩ := hrel
          obtain ⟨hy0, hy1, hy2, hy3, hy4, hy5, hy6⟩ := SE0.out.below HB.out
          by_cases hjt : j < y.f2.length
          · obtain ⟨z, hz⟩ : ∃ z, z = y.f2[j] := ⟨_, rfl⟩
            have ZM : Aside0 (z ∈ y.f2) := ⟨by rw [hz]; exact List.getElem_mem hjt⟩
            obtain ⟨ad2, Z2, d2, Z5, d5, Z6, d6, eZ, nz', hz0, hz1, hz2, hz3, hz4, hz5, hz6⟩ := elemF (NX.out.old HB.out).g2 j z (by rw [hz, List.getElem?_eq_getElem hjt])
            subst eZ
            have NZ := Aside0.mk nz'
            obtain ⟨q, q1, q2, q3⟩ := PG.out z ZM.out
            have EZ := Aside0.mk q1
            have ZIN : z ∈ pre y := mem_parts ZM.out (mem_self z)
            have OKZ := Aside0.mk (okT_part OK.out ZIN)
            have LZ : Aside0 (all2.length + (pre z).length ≤ 1000000) := ⟨by have := L2.out; have := pre_part y z ZIN; omega⟩
            obtain ⟨qz, hqz⟩ : ∃ u : Int, (q : Int) = u := ⟨_, rfl⟩
            have HQZ := Aside0.mk hqz
            have t5 : decide (nz ≤ qz) = false := decide_eq_false (by have := HNZ.out; omega)
            have t6 : decide (qz < 1) = false := decide_eq_false (by omega)
            clear nz' q1 q2 q3 ZIN hqz hz
            go_wp2_with (first | ((with_reducible refine gate_dst (N := 111) rfl ?_); refine goesL_ (some 111) rfl rfl Tryd.func10 (by kernel_rfl) rfl #[.pointer (some ⟨ga, 0, none⟩), .agg #[.int .i64 z.f0, .string z.f1, .slice Z2 z.f2.length d2, .bool z.f3, .bool z.f4, .slice Z5 z.f5.length d5, .slice Z6 z.f6.length d6]] rfl (by (try simp only [List.map_toArray, List.map_cons, List.map_nil]); first | done | rfl) ?_; (refine (put_law PV.out (HT.out.on HB.out) NZ.out (fun k hk => Or.inl hk) OKZ.out LZ.out EZ.out).mono ?_); (rintro e w9 ⟨rfl, hp, hf⟩; refine ⟨_, rfl, ?_⟩; rw [HQZ.out]; clear hz0 hz1 hz2 hz3 hz4 hz5 hz6 NZ; have n0 := Aside0.mk hp; have n1 := Aside0.mk (HB.out.trans hf.below); clear PV HB hp hf; have PV := n0; have HB := n1; clear n0 n1)) | ((with_reducible refine gate_dst (N := 121) rfl ?_); (refine gate_guard (by rfl) ?_; dsimp only); refine goesL_ (some 121) rfl rfl Tryd.func12 (by kernel_rfl) rfl #[.pointer (some ⟨ga, 0, none⟩)] rfl (by (try simp only [List.map_toArray, List.map_cons, List.map_nil]); first | done | rfl) ?_; (refine (len_law lz2 PV.out LZ2.out).mono ?_); (rintro e w9 ⟨rfl, rfl⟩; refine ⟨_, rfl, ?_⟩; skip)))
            go_roundg (y.f2.length - (j + 1))
            case measure => have := HJ.out; omega
            case rel => exact ⟨j + 1, by simp, by omega, ⟨by have := HJ.out; omega⟩, PV, HB⟩
          · obtain rfl : j = y.f2.length := by omega
            go_wp2_with fail
            go_roundg (l.length - (i + 1))
            case measure => have := HK.out; omega
            case rel => exact ⟨i + 1, all2, by simp, by omega, ⟨by have := HK.out; omega⟩, LB, PV, HB⟩
      · have t150 : decide (150 < cz) = true := decide_eq_true (by have := CZ2.out; omega)
        clear cx
        go_wp2_with (first | ((with_reducible refine gate_dst (N := 28) rfl ?_); refine goesL_ (some 28) rfl rfl Tryd.func9 (by kernel_rfl) rfl #[.agg #[.int .i64 y.f0, .string y.f1, .slice Y2 y.f2.length e2, .bool y.f3, .bool y.f4, .slice Y5 y.f5.length e5, .slice Y6 y.f6.length e6]] rfl (by (try simp only [List.map_toArray, List.map_cons, List.map_nil]); first | done | rfl) ?_; (refine (cnt9_of cz (NX.out.old HB.out).nd FX.out CZ.out).mono ?_); (rintro e w9 ⟨rfl, hb⟩; refine ⟨_, rfl, ?_⟩; have n0 := Aside0.mk (PV.out.below hb); have n1 := Aside0.mk (below_step HB.out hb); clear PV HB hb; have PV := n0; have HB := n1; clear n0 n1; clear hy0 hy1 hy2 hy3 hy4 hy5 hy6; obtain ⟨hy0, hy1, hy2, hy3, hy4, hy5, hy6⟩ := SE0.out.below HB.out)) | ((with_reducible refine gate_dst (N := 31) rfl ?_); refine goesL_ (some 31) rfl rfl Tryd.func7 (by kernel_rfl) rfl #[] rfl (by (try simp only [List.map_toArray, List.map_cons, List.map_nil]); first | done | rfl) ?_; (refine (told_calls _ ((HT.out.on HB.out).mono HB.out.size)).mono ?_); (rintro e w9 ⟨rfl, hb⟩; refine ⟨_, rfl, ?_⟩; have n0 := Aside0.mk (PV.out.below hb); have n1 := Aside0.mk (below_step HB.out hb); clear PV HB hb; have PV := n0; have HB := n1; clear n0 n1)))
        go_ret
        exact ⟨rfl, HB.out⟩
    · obtain rfl : i = l.length := by omega
      go_wp2_with (first | ((with_reducible refine gate_dst (N := 125) rfl ?_); refine goesL_ (some 125) rfl rfl Tryd.func7 (by kernel_rfl) rfl #[] rfl (by (try simp only [List.map_toArray, List.map_cons, List.map_nil]); first | done | rfl) ?_; (refine (told_calls _ ((HT.out.on HB.out).mono HB.out.size)).mono ?_); (rintro e w9 ⟨rfl, hb⟩; refine ⟨_, rfl, ?_⟩; have n0 := Aside0.mk (PV.out.below hb); have n1 := Aside0.mk (below_step HB.out hb); clear PV HB hb; have PV := n0; have HB := n1; clear n0 n1)))
      go_ret
      exact ⟨rfl, HB.out⟩
theorem PoolTwice_walk {w : World} (hT : Tab w.heap.size w) (l : List S32) (A : Option Addr) (c : Nat) (hc : l.length ≤ c) (hl : Kd.C k32 w A l.length l) (oz : ∀ x ∈ l, tb x ≤ 1048576) : Calls Tryd.prog 5 #[.slice A l.length c] w fun e w' => e = .returned (.bool true) ∧ Below w.heap.size w w' := by
  cases h4 : decide (4 < (l.length : Int))
  · exact twice_main l A c w hl hc hT oz h4 (by have : ¬ (4 < (l.length : Int)) := of_decide_eq_false h4; omega)
  · exact twice_long l A c w hl hc hT h4
end Go.Proofs.YtjlnlonioknkhaaDoor.PL

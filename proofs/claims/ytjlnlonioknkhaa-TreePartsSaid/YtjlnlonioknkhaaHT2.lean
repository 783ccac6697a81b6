/- TreeParts: the walk. -/
import Derived.Test.YtjlnlonioknkhaaHT1
import Derived.Test.YtjlnlonioknkhaaPAx11
namespace Go.Proofs.Ytjlnlonioknkhaa.PA
open Go.RowKit Go.Proofs.YtjlnlonioknkhaaW.PrintWords Go.Proofs.YtjlnlonioknkhaaW.PrintLast Go.Proofs.YtjlnlonioknkhaaW.PrintMore
set_option linter.unusedVariables false
set_option linter.unusedSimpArgs false

theorem F6tab10 : rtab .any (opsOf Try.f6 10) = (true, [([], []), ([], []), ([], []), ([1, 2], [1, 2]), ([3], [3]), ([4], [4]), ([0, 5], [0, 5]), ([], []), ([], []), ([], []), ([8, 9], [8, 9]), ([10], [10]), ([11, 5], [11]), ([12], [12]), ([7, 13], [7, 13]), ([], []), ([], []), ([], []), ([16, 17], [16, 17]), ([18], [18]), ([19, 12], [19]), ([20], [20]), ([15, 21], [15, 21]), ([6, 20, 0, 1, 2, 3, 4, 5, 6], [0, 6]), ([14, 23, 0, 1, 2, 3, 4, 5, 6, 7, 8, 9, 10, 11, 12, 13, 14, 23], [7, 14]), ([22, 24, 0, 1, 2, 3, 4, 5, 6, 7, 8, 9, 10, 11, 12, 13, 14, 15, 16, 17, 18, 19, 20, 21, 22, 23, 24], [15, 22])]) := by kernel_rfl
def xP (l : List S26) : S26 := ⟨4, (⟨#[]⟩ : ByteArray), l, false, false, [], []⟩
def yP (l : List S26) (s : ByteArray) : S26 := ⟨4, (⟨#[]⟩ : ByteArray), l, false, false, [], [s]⟩
theorem pre_xP (l : List S26) : pre (xP l) = xP l :: preL l := by simp [xP, pre]
theorem pre_yP (l : List S26) (s : ByteArray) : pre (yP l s) = yP l s :: preL l := by simp [yP, pre]
theorem lits_xP (l : List S26) : lits (pre (xP l)) = lits (preL l) := by rw [pre_xP, lits_cons, if_neg (by simp [xP])]; rfl
theorem frc_xP (l : List S26) : (pre (xP l)).any forced1 = (preL l).any forced1 := by rw [pre_xP, List.any_cons]; rfl
theorem frc_yP (l : List S26) (s : ByteArray) : (pre (yP l s)).any forced1 = true := by rw [pre_yP, List.any_cons]; rfl
theorem nts_yP (l : List S26) (s : ByteArray) : nts (yP l s) = ntsL l ++ [s] := by rw [nts_eq]; rfl
theorem like_xy (l : List S26) (s : ByteArray) : likeB false (xP l) (yP l s) = false := by
  rw [likeB_eq]
  have : sEq (xP l).f6 (yP l s).f6 = false := rfl
  rw [this]
  simp
theorem fin_xP (l : List S26) (hl : l.length ≤ 5) (h : ∀ y ∈ preL l, y.f2.length ≤ 9223372036854775807 ∧ y.f5.length ≤ 9223372036854775807 ∧ y.f6.length ≤ 9223372036854775807) : Fin26 (xP l) := fun y hy => by
  rw [pre_xP] at hy
  rcases List.mem_cons.1 hy with rfl | hy
  · exact ⟨by show l.length ≤ _; omega, by simp [xP], by simp [xP]⟩
  · exact h y hy
theorem fin_yP (l : List S26) (s : ByteArray) (hl : l.length ≤ 5) (h : ∀ y ∈ preL l, y.f2.length ≤ 9223372036854775807 ∧ y.f5.length ≤ 9223372036854775807 ∧ y.f6.length ≤ 9223372036854775807) : Fin26 (yP l s) := fun y hy => by
  rw [pre_yP] at hy
  rcases List.mem_cons.1 hy with rfl | hy
  · exact ⟨by show l.length ≤ _; omega, by simp [yP], by simp [yP]⟩
  · exact h y hy
theorem C_text1 {w : World} {g : Nat} {s : ByteArray} (hb : w.heap[g]? = some (.cells #[.string s] 9 (0, 0))) : Kd.C Kd.string w (some ⟨g, 0, none⟩) 1 [s] :=
  C_of_blk (xs := [s]) (inner := [.string s]) hb ⟨rfl, fun j p hj => by
    cases j with
    | zero => have : s = p := by simpa using hj
              subst this; rfl
    | succ j => simp at hj⟩ (by simp)
theorem last_at {w : World} {A : Option Addr} {l : List S26} {s : ByteArray} {m : Nat} (h : Kd.C Kd.string w A (nts (yP l s)).length (nts (yP l s))) (hm : (ntsL l).length = m) : ∃ ad, A = some ad ∧ w.cell? (ad.add m) = some (.string s) := by
  subst hm
  have hl : (ntsL l).length < (nts (yP l s)).length := by rw [nts_yP]; simp
  obtain ⟨ad, e, hc⟩ := text_at h (ntsL l).length hl
  refine ⟨ad, e, hc.trans ?_⟩
  have : (nts (yP l s))[(ntsL l).length] = s := by simp [nts_yP]
  rw [this]
structure IvP (w0 w : World) (gx gy gs : Nat) (l : List S26) (A : Option Addr) (c : Nat) (s : ByteArray) : Prop where
  hb : Below w0.heap.size w0 w
  ol : Kd.C k26 w0 A l.length l
  oc : l.length ≤ c
  bx : w.heap[gx]? = some (.cells #[.int .i64 4, .string (⟨#[]⟩ : ByteArray), .slice A l.length c, .bool false, .bool false, .slice none 0 0, .slice none 0 0] 26 (0, 0))
  by_ : w.heap[gy]? = some (.cells #[.int .i64 4, .string (⟨#[]⟩ : ByteArray), .slice A l.length c, .bool false, .bool false, .slice none 0 0, .slice (some ⟨gs, 0, none⟩) 1 1] 26 (0, 0))
  bs : w.heap[gs]? = some (.cells #[.string s] 9 (0, 0))
section
variable {w0 w w' : World} {gx gy gs c : Nat} {l : List S26} {A : Option Addr} {s : ByteArray}
theorem IvP.step (h : IvP w0 w gx gy gs l A c s) (k : Below w.heap.size w w') : IvP w0 w' gx gy gs l A c s := ⟨below_step h.hb k, h.ol, h.oc, blk_below h.bx k, blk_below h.by_ k, blk_below h.bs k⟩
theorem IvP.nx (h : IvP w0 w gx gy gs l A c s) : Nd w (xP l) A c none 0 none 0 := ⟨Kd.C_below h.ol h.hb, h.oc, Kd.C_nil _ _, Nat.le_refl _, Kd.C_nil _ _, Nat.le_refl _⟩
theorem IvP.ny (h : IvP w0 w gx gy gs l A c s) : Nd w (yP l s) A c none 0 (some ⟨gs, 0, none⟩) 1 := ⟨Kd.C_below h.ol h.hb, h.oc, Kd.C_nil _ _, Nat.le_refl _, C_text1 h.bs, Nat.le_refl _⟩
end
set_option maxHeartbeats 2000000 in
theorem parts_1 (l : List S26) (A : Option Addr) (c : Nat) (s : ByteArray) (w : World) (hl : Kd.C k26 w A l.length l) (hc : l.length ≤ c) (hs : s.size ≤ 140737488351232) (h6 : decide (5 < (l.length : Int)) = true) : Calls Try.prog 6 #[.slice A l.length c, .string s] w fun e w' => e = .returned (.bool true) ∧ Below w.heap.size w w' := by
  have hu26 := Try.underlying26
  have HL := Aside0.mk hl
  have HC := Aside0.mk hc
  have HB := Aside0.mk (Below.refl w.heap.size w)
  clear hl hc
  go_enter Try.func6, Try.ntmps6
  go_wp2_with (first | ((with_reducible refine gate_dst (N := 21) rfl ?_); refine goesL_ (some 21) rfl rfl Try.func11 (by kernel_rfl) rfl #[] rfl (by (try simp only [List.map_toArray, List.map_cons, List.map_nil]); first | done | rfl) ?_; (refine (galleylaw10_told.calls true _ rfl).mono ?_); (rintro e w101 ⟨rfl, hb⟩; refine ⟨_, rfl, ?_⟩; have n0 := Aside0.mk (below_step HB.out hb); clear HB hb; have HB := n0; clear n0)))
  go_ret
  exact ⟨rfl, HB.out⟩
set_option maxHeartbeats 2000000 in
theorem parts_2 (l : List S26) (A : Option Addr) (c : Nat) (s : ByteArray) (w : World) (hl : Kd.C k26 w A l.length l) (hc : l.length ≤ c) (hs : s.size ≤ 140737488351232) (h6 : decide (5 < (l.length : Int)) = false) (h7 : decide (50 < (s.size : Int)) = true) : Calls Try.prog 6 #[.slice A l.length c, .string s] w fun e w' => e = .returned (.bool true) ∧ Below w.heap.size w w' := by
  have hu26 := Try.underlying26
  have HL := Aside0.mk hl
  have HC := Aside0.mk hc
  have HB := Aside0.mk (Below.refl w.heap.size w)
  clear hl hc
  go_enter Try.func6, Try.ntmps6
  go_wp2_with (first | ((with_reducible refine gate_dst (N := 21) rfl ?_); refine goesL_ (some 21) rfl rfl Try.func11 (by kernel_rfl) rfl #[] rfl (by (try simp only [List.map_toArray, List.map_cons, List.map_nil]); first | done | rfl) ?_; (refine (galleylaw10_told.calls true _ rfl).mono ?_); (rintro e w102 ⟨rfl, hb⟩; refine ⟨_, rfl, ?_⟩; have n0 := Aside0.mk (below_step HB.out hb); clear HB hb; have HB := n0; clear n0)))
  go_ret
  exact ⟨rfl, HB.out⟩
theorem wrap_tiny (n : Nat) (h : n ≤ 400) : wrap64 (n : Int) = (n : Int) := by unfold wrap64; omega
theorem wrap_sum (n m : Nat) (h : n ≤ 1000000) (h' : m ≤ 1000000) : wrap64 ((n : Int) + (m : Int)) = ((n + m : Nat) : Int) := by unfold wrap64; omega
/-- What is known of the parts that were counted. -/
structure Parts (l : List S26) (i n5 n6 n7 : Nat) (b : Bool) : Prop where
  e5 : n5 = 1 + (preL (l.take i)).length
  e6 : n6 = (lits (preL (l.take i))).length
  e7 : n7 = 1 + (ntsL (l.take i)).length
  e8 : b = (preL (l.take i)).any forced1
  b5 : n5 ≤ 1 + 400 * i
  b6 : n6 ≤ 400 * i
  b7 : n7 ≤ 1 + 32000 * i
  fin : ∀ j (h : j < l.length), j < i → Fin26 l[j]
theorem Parts.next {l : List S26} {i n5 n6 n7 : Nat} {b : Bool} (h : Parts l i n5 n6 n7 b) (hi : i < l.length) (y : S26) (hy : y = l[i]) (hf : Fin26 y) (h5 : (pre y).length ≤ 400) (h6 : (lits (pre y)).length ≤ 400) (h7 : (nts y).length ≤ 32000) :
    Parts l (i + 1) (n5 + (pre y).length) (n6 + (lits (pre y)).length) (n7 + (nts y).length) (b || (pre y).any forced1) := by
  subst hy
  have h1 := h.e5; have h2 := h.e6; have h3 := h.e7; have h4 := h.e8
  have b5 := h.b5; have b6 := h.b6; have b7 := h.b7
  refine ⟨by rw [preL_take l i hi, List.length_append]; omega, by rw [preL_take l i hi, lits_append, List.length_append]; omega, by rw [ntsL_take l i hi, List.length_append]; omega, by rw [preL_take l i hi, List.any_append, h4], by omega, by omega, by omega, fun j hj hji => ?_⟩
  rcases Nat.lt_or_ge j i with h8 | h8
  · exact h.fin j hj h8
  · obtain rfl : j = i := by omega
    exact hf
set_option maxHeartbeats 8000000 in
theorem parts_3 (l : List S26) (A : Option Addr) (c : Nat) (s : ByteArray) (w : World) (hl : Kd.C k26 w A l.length l) (hc : l.length ≤ c) (hs : s.size ≤ 140737488351232) (h6 : decide (5 < (l.length : Int)) = false) (h7 : decide (50 < (s.size : Int)) = false) (hl5 : l.length ≤ 5) : Calls Try.prog 6 #[.slice A l.length c, .string s] w fun e w' => e = .returned (.bool true) ∧ Below w.heap.size w w' := by
  have hu26 := Try.underlying26
  have HL := Aside0.mk hl
  have HC := Aside0.mk hc
  have HB := Aside0.mk (Below.refl w.heap.size w)
  clear hl hc
  have H5 := Aside0.mk hl5
  clear hl5
  go_enter Try.func6, Try.ntmps6
  go_wp2_with fail
  go_loopg [5, 6, 7, 8, 9] l.length (fun k' v5 v6 v7 v8 v9 wr => ∃ (i n5 n6 n7 : Nat) (b : Bool), v5 = .int .i64 n5 ∧ v6 = .int .i64 n6 ∧ v7 = .int .i64 n7 ∧ v8 = .bool b ∧ v9 = .int .i64 i ∧ i ≤ l.length ∧ Aside0 (k' + i = l.length) ∧ Aside0 (Parts l i n5 n6 n7 b) ∧ Aside0 (Below w.heap.size w wr))
  case atStart => exact ⟨0, 1, 0, 1, false, rfl, rfl, rfl, rfl, rfl, Nat.zero_le _, ⟨rfl⟩, ⟨⟨by simp [preL], by simp [preL, lits], by simp [ntsL], by simp [preL], by omega, by omega, by omega, fun j _ h0 => absurd h0 (Nat.not_lt_zero j)⟩⟩, HB⟩
  case round =>
    clear HB
    obtain ⟨i, n5, n6, n7, b, rfl, rfl, rfl, rfl, rfl, hi, HK, HS, HB⟩ := hrel
    by_cases hlt : i < l.length
    · obtain ⟨ad, A2, c2, A5, c5, A6, c6, e0, ny, qy⟩ := Nd.at_ HL.out i hlt
      cases e0
      have NY := Aside0.mk ny
      have QY : Aside0 (∀ w', Below w.heap.size w w' → SE ad i l[i] A2 c2 A5 c5 A6 c6 w') := ⟨qy⟩
      have HF := Aside0.mk (few_small l[i] 40)
      have HFF := Aside0.mk (few_fin (x := l[i]))
      clear qy ny
      obtain ⟨y, hy⟩ : ∃ y, y = l[i] := ⟨_, rfl⟩
      have HY := Aside0.mk hy
      rw [← hy] at QY NY HF HFF
      clear hy
      obtain ⟨q0, q1, q2, q3, q4, q5, q6⟩ := QY.out _ HB.out
      cases hf : decide (fewV y 40 ≤ 400)
      · go_wp2_with (first | ((with_reducible refine gate_dst (N := 32) rfl ?_); refine goesL_ (some 32) rfl rfl Try.func14 (by kernel_rfl) rfl #[.agg #[.int .i64 y.f0, .string y.f1, .slice A2 y.f2.length c2, .bool y.f3, .bool y.f4, .slice A5 y.f5.length c5, .slice A6 y.f6.length c6]] rfl (by (try simp only [List.map_toArray, List.map_cons, List.map_nil]); first | done | rfl) ?_; (refine (few10_of false (NY.out.below HB.out) hf).mono ?_); (rintro e w301 ⟨rfl, hb⟩; refine ⟨_, rfl, ?_⟩; have n0 := Aside0.mk (below_step HB.out hb); clear HB hb; have HB := n0; clear n0; obtain ⟨q0, q1, q2, q3, q4, q5, q6⟩ := QY.out _ HB.out)) | ((with_reducible refine gate_dst (N := 34) rfl ?_); refine goesL_ (some 34) rfl rfl Try.func11 (by kernel_rfl) rfl #[] rfl (by (try simp only [List.map_toArray, List.map_cons, List.map_nil]); first | done | rfl) ?_; (refine (galleylaw10_told.calls true _ rfl).mono ?_); (rintro e w301 ⟨rfl, hb⟩; refine ⟨_, rfl, ?_⟩; have n0 := Aside0.mk (below_step HB.out hb); clear HB hb; have HB := n0; clear n0)))
        go_ret
        exact ⟨rfl, HB.out⟩
      have hf' : fewV y 40 ≤ 400 := by simpa using hf
      have FY := Aside0.mk (HFF.out hf')
      have LY : Aside0 ((pre y).length ≤ 400 ∧ (lits (pre y)).length ≤ 400 ∧ (nts y).length ≤ 32000) := by
        obtain ⟨s1, s2⟩ := HF.out hf'
        have h1 := lits_le (pre y)
        have h2 := nts_le y (fun z hz => ⟨(s2 z hz).2.1, (s2 z hz).2.2⟩)
        exact ⟨by omega, by omega, by omega⟩
      clear HF HFF hf'
      have hi0 : 0 ≤ (i : Int) := by omega
      have hi1 : (i : Int) ≤ 6 := by have := H5.out; omega
      go_wp2_with (first | ((with_reducible refine gate_dst (N := 32) rfl ?_); refine goesL_ (some 32) rfl rfl Try.func14 (by kernel_rfl) rfl #[.agg #[.int .i64 y.f0, .string y.f1, .slice A2 y.f2.length c2, .bool y.f3, .bool y.f4, .slice A5 y.f5.length c5, .slice A6 y.f6.length c6]] rfl (by (try simp only [List.map_toArray, List.map_cons, List.map_nil]); first | done | rfl) ?_; (refine (few10_of true (NY.out.below HB.out) hf).mono ?_); (rintro e w302 ⟨rfl, hb⟩; refine ⟨_, rfl, ?_⟩; have n0 := Aside0.mk (below_step HB.out hb); clear HB hb; have HB := n0; clear n0; obtain ⟨q0, q1, q2, q3, q4, q5, q6⟩ := QY.out _ HB.out)))
      clear q0 q1 q2 q3 q4 q5 q6
      cases b
      · have n0 := Aside0.mk (below_drew1 HB.out)
        clear HB
        have HB := n0
        clear n0
        refine start_ (n := 26) (S := SE ad i y A2 c2 A5 c5 A6 c6) (ds := []) #[false, false, false, false, false, false, false, false, false, false, false, false, false, false, false, false, false, false, false, false, false, false, false, false, false, false] (by kernel_rfl) rfl rfl (QY.out _ HB.out) (fun hHeld => ?_)
        generalize World.drew _ = w500 at HB hHeld ⊢
        refine pure_ (i := 0) (N := some 35) (v := ?_) (a' := ?_) #[true, false, false, false, false, false, false, false, false, false, false, false, false, false, false, false, false, false, false, false, false, false, false, false, false, false] rfl rfl (any_of (md := .any) (ops := opsOf Try.f6 10) F6tab10 (by kernel_rfl)) (fun _ _ _ h => h) (Or.inl ⟨by rfl, ?_⟩) ?_ ?_
        rotate_left
        · intro w'
          go_simp
          with_reducible rfl
        rotate_left
        · simp only [Act.put, List.setIfInBounds_toArray, List.set_cons_zero, List.set_cons_succ, i64_w, i32_w]
          rfl
        refine pure_ (i := 1) (N := some 36) (v := ?_) (a' := ?_) #[true, true, false, false, false, false, false, false, false, false, false, false, false, false, false, false, false, false, false, false, false, false, false, false, false, false] rfl rfl (any_of (md := .any) (ops := opsOf Try.f6 10) F6tab10 (by kernel_rfl)) (fun _ _ _ h => h) (Or.inl ⟨by rfl, ?_⟩) ?_ ?_
        rotate_left
        · intro w'
          go_simp
          with_reducible rfl
        rotate_left
        · simp only [Act.put, List.setIfInBounds_toArray, List.set_cons_zero, List.set_cons_succ, i64_w, i32_w]
          rfl
        refine pure_ (i := 2) (N := some 37) (v := ?_) (a' := ?_) #[true, true, true, false, false, false, false, false, false, false, false, false, false, false, false, false, false, false, false, false, false, false, false, false, false, false] rfl rfl (any_of (md := .any) (ops := opsOf Try.f6 10) F6tab10 (by kernel_rfl)) (fun _ _ _ h => h) (Or.inl ⟨by rfl, ?_⟩) ?_ ?_
        rotate_left
        · intro w'
          go_simp
          with_reducible rfl
        rotate_left
        · simp only [Act.put, List.setIfInBounds_toArray, List.set_cons_zero, List.set_cons_succ, i64_w, i32_w]
          rfl
        refine pure_ (i := 3) (N := some 38) (v := ?_) (a' := ?_) #[true, true, true, true, false, false, false, false, false, false, false, false, false, false, false, false, false, false, false, false, false, false, false, false, false, false] rfl rfl (any_of (md := .any) (ops := opsOf Try.f6 10) F6tab10 (by kernel_rfl)) (fun _ _ _ h => h) (Or.inl ⟨by rfl, ?_⟩) ?_ ?_
        rotate_left
        · intro w'
          go_simp
          with_reducible rfl
        rotate_left
        · simp only [Act.put, List.setIfInBounds_toArray, List.set_cons_zero, List.set_cons_succ, i64_w, i32_w]
          rfl
        refine take_ (i := 4) (N := some 39) (v := ?_) (a' := ?_) #[true, true, true, true, true, false, false, false, false, false, false, false, false, false, false, false, false, false, false, false, false, false, false, false, false, false] rfl rfl (take_of (md := .any) (ops := opsOf Try.f6 10) F6tab10 (by kernel_rfl)) (fun _ _ _ h => h) (Or.inl ⟨by rfl, ?_⟩) hHeld ?_ ?_
        rotate_left
        · rintro w' ⟨s0, s1, s2, s3, s4, s5, s6⟩
          go_simp
          with_reducible rfl
        rotate_left
        · simp only [Act.put, List.setIfInBounds_toArray, List.set_cons_zero, List.set_cons_succ, i64_w, i32_w]
          rfl
        refine pure_ (i := 7) (N := some 42) (v := ?_) (a' := ?_) #[true, true, true, true, true, false, false, true, false, false, false, false, false, false, false, false, false, false, false, false, false, false, false, false, false, false] rfl rfl (any_of (md := .any) (ops := opsOf Try.f6 10) F6tab10 (by kernel_rfl)) (fun _ _ _ h => h) (Or.inl ⟨by rfl, ?_⟩) ?_ ?_
        rotate_left
        · intro w'
          go_simp
          with_reducible rfl
        rotate_left
        · simp only [Act.put, List.setIfInBounds_toArray, List.set_cons_zero, List.set_cons_succ, i64_w, i32_w]
          rfl
        refine pure_ (i := 8) (N := some 43) (v := ?_) (a' := ?_) #[true, true, true, true, true, false, false, true, true, false, false, false, false, false, false, false, false, false, false, false, false, false, false, false, false, false] rfl rfl (any_of (md := .any) (ops := opsOf Try.f6 10) F6tab10 (by kernel_rfl)) (fun _ _ _ h => h) (Or.inl ⟨by rfl, ?_⟩) ?_ ?_
        rotate_left
        · intro w'
          go_simp
          with_reducible rfl
        rotate_left
        · simp only [Act.put, List.setIfInBounds_toArray, List.set_cons_zero, List.set_cons_succ, i64_w, i32_w]
          rfl
        refine pure_ (i := 9) (N := some 44) (v := ?_) (a' := ?_) #[true, true, true, true, true, false, false, true, true, true, false, false, false, false, false, false, false, false, false, false, false, false, false, false, false, false] rfl rfl (any_of (md := .any) (ops := opsOf Try.f6 10) F6tab10 (by kernel_rfl)) (fun _ _ _ h => h) (Or.inl ⟨by rfl, ?_⟩) ?_ ?_
        rotate_left
        · intro w'
          go_simp
          with_reducible rfl
        rotate_left
        · simp only [Act.put, List.setIfInBounds_toArray, List.set_cons_zero, List.set_cons_succ, i64_w, i32_w]
          rfl
        refine pure_ (i := 10) (N := some 45) (v := ?_) (a' := ?_) #[true, true, true, true, true, false, false, true, true, true, true, false, false, false, false, false, false, false, false, false, false, false, false, false, false, false] rfl rfl (any_of (md := .any) (ops := opsOf Try.f6 10) F6tab10 (by kernel_rfl)) (fun _ _ _ h => h) (Or.inl ⟨by rfl, ?_⟩) ?_ ?_
        rotate_left
        · intro w'
          go_simp
          with_reducible rfl
        rotate_left
        · simp only [Act.put, List.setIfInBounds_toArray, List.set_cons_zero, List.set_cons_succ, i64_w, i32_w]
          rfl
        refine take_ (i := 11) (N := some 46) (v := ?_) (a' := ?_) #[true, true, true, true, true, false, false, true, true, true, true, true, false, false, false, false, false, false, false, false, false, false, false, false, false, false] rfl rfl (take_of (md := .any) (ops := opsOf Try.f6 10) F6tab10 (by kernel_rfl)) (fun _ _ _ h => h) (Or.inl ⟨by rfl, ?_⟩) hHeld ?_ ?_
        rotate_left
        · rintro w' ⟨s0, s1, s2, s3, s4, s5, s6⟩
          go_simp
          with_reducible rfl
        rotate_left
        · simp only [Act.put, List.setIfInBounds_toArray, List.set_cons_zero, List.set_cons_succ, i64_w, i32_w]
          rfl
        refine pure_ (i := 15) (N := some 50) (v := ?_) (a' := ?_) #[true, true, true, true, true, false, false, true, true, true, true, true, false, false, false, true, false, false, false, false, false, false, false, false, false, false] rfl rfl (any_of (md := .any) (ops := opsOf Try.f6 10) F6tab10 (by kernel_rfl)) (fun _ _ _ h => h) (Or.inl ⟨by rfl, ?_⟩) ?_ ?_
        rotate_left
        · intro w'
          go_simp
          with_reducible rfl
        rotate_left
        · simp only [Act.put, List.setIfInBounds_toArray, List.set_cons_zero, List.set_cons_succ, i64_w, i32_w]
          rfl
        refine pure_ (i := 16) (N := some 51) (v := ?_) (a' := ?_) #[true, true, true, true, true, false, false, true, true, true, true, true, false, false, false, true, true, false, false, false, false, false, false, false, false, false] rfl rfl (any_of (md := .any) (ops := opsOf Try.f6 10) F6tab10 (by kernel_rfl)) (fun _ _ _ h => h) (Or.inl ⟨by rfl, ?_⟩) ?_ ?_
        rotate_left
        · intro w'
          go_simp
          with_reducible rfl
        rotate_left
        · simp only [Act.put, List.setIfInBounds_toArray, List.set_cons_zero, List.set_cons_succ, i64_w, i32_w]
          rfl
        refine pure_ (i := 17) (N := some 52) (v := ?_) (a' := ?_) #[true, true, true, true, true, false, false, true, true, true, true, true, false, false, false, true, true, true, false, false, false, false, false, false, false, false] rfl rfl (any_of (md := .any) (ops := opsOf Try.f6 10) F6tab10 (by kernel_rfl)) (fun _ _ _ h => h) (Or.inl ⟨by rfl, ?_⟩) ?_ ?_
        rotate_left
        · intro w'
          go_simp
          with_reducible rfl
        rotate_left
        · simp only [Act.put, List.setIfInBounds_toArray, List.set_cons_zero, List.set_cons_succ, i64_w, i32_w]
          rfl
        refine pure_ (i := 18) (N := some 53) (v := ?_) (a' := ?_) #[true, true, true, true, true, false, false, true, true, true, true, true, false, false, false, true, true, true, true, false, false, false, false, false, false, false] rfl rfl (any_of (md := .any) (ops := opsOf Try.f6 10) F6tab10 (by kernel_rfl)) (fun _ _ _ h => h) (Or.inl ⟨by rfl, ?_⟩) ?_ ?_
        rotate_left
        · intro w'
          go_simp
          with_reducible rfl
        rotate_left
        · simp only [Act.put, List.setIfInBounds_toArray, List.set_cons_zero, List.set_cons_succ, i64_w, i32_w]
          rfl
        refine take_ (i := 19) (N := some 54) (v := ?_) (a' := ?_) #[true, true, true, true, true, false, false, true, true, true, true, true, false, false, false, true, true, true, true, true, false, false, false, false, false, false] rfl rfl (take_of (md := .any) (ops := opsOf Try.f6 10) F6tab10 (by kernel_rfl)) (fun _ _ _ h => h) (Or.inl ⟨by rfl, ?_⟩) hHeld ?_ ?_
        rotate_left
        · rintro w' ⟨s0, s1, s2, s3, s4, s5, s6⟩
          go_simp
          with_reducible rfl
        rotate_left
        · simp only [Act.put, List.setIfInBounds_toArray, List.set_cons_zero, List.set_cons_succ, i64_w, i32_w]
          rfl
        refine one_ (i := 5) (N := some 40) #[true, true, true, true, true, true, false, true, true, true, true, true, false, false, false, true, true, true, true, true, false, false, false, false, false, false] rfl rfl (one_of (md := .any) (ops := opsOf Try.f6 10) F6tab10 (by kernel_rfl)) (by decide) (fun K hK => ?_)
        refine goes_ Try.func19 (by kernel_rfl) rfl #[.agg #[.int .i64 y.f0, .string y.f1, .slice A2 y.f2.length c2, .bool y.f3, .bool y.f4, .slice A5 y.f5.length c5, .slice A6 y.f6.length c6]] (by rfl) rfl rfl (by (try simp only [List.map_toArray, List.map_cons, List.map_nil]); first | done | rfl) ?_
        refine (cnt10_of ((pre y).length : Int) (NY.out.below HB.out) (wrap_tiny _ LY.out.1)).mono ?_
        rintro e w501 ⟨rfl, hb⟩
        refine ⟨_, rfl, ?_⟩
        have n0 := Aside0.mk (below_step HB.out hb); clear HB hb; have HB := n0; clear n0
        refine hK.out _ _ (QY.out _ HB.out) (fun hHeld => ?_)
        clear hK K
        refine norm_ (a' := ?_) ?_ ?_
        rotate_left
        · show Act.put _ (some 40) _ = _
          simp only [Act.put, List.setIfInBounds_toArray, List.set_cons_zero, List.set_cons_succ, i64_w, i32_w]
          rfl
        refine pure_ (i := 6) (N := some 41) (v := ?_) (a' := ?_) #[true, true, true, true, true, true, true, true, true, true, true, true, false, false, false, true, true, true, true, true, false, false, false, false, false, false] rfl rfl (any_of (md := .any) (ops := opsOf Try.f6 10) F6tab10 (by kernel_rfl)) (fun _ _ _ h => h) (Or.inl ⟨by rfl, ?_⟩) ?_ ?_
        rotate_left
        · intro w'
          go_simp
          with_reducible rfl
        rotate_left
        · simp only [Act.put, List.setIfInBounds_toArray, List.set_cons_zero, List.set_cons_succ, i64_w, i32_w]
          rfl
        refine one_ (i := 12) (N := some 47) #[true, true, true, true, true, true, true, true, true, true, true, true, true, false, false, true, true, true, true, true, false, false, false, false, false, false] rfl rfl (one_of (md := .any) (ops := opsOf Try.f6 10) F6tab10 (by kernel_rfl)) (by decide) (fun K hK => ?_)
        refine goes_ Try.func12 (by kernel_rfl) rfl #[.agg #[.int .i64 y.f0, .string y.f1, .slice A2 y.f2.length c2, .bool y.f3, .bool y.f4, .slice A5 y.f5.length c5, .slice A6 y.f6.length c6]] (by rfl) rfl rfl (by (try simp only [List.map_toArray, List.map_cons, List.map_nil]); first | done | rfl) ?_
        refine (lits10_of (lits (pre y)).length (NY.out.below HB.out) rfl (by have := LY.out.2.1; omega)).mono ?_
        rintro e w502 ⟨A47, c47, rfl, hb⟩
        refine ⟨_, rfl, ?_⟩
        have n0 := Aside0.mk (below_step HB.out hb); clear HB hb; have HB := n0; clear n0
        refine hK.out _ _ (QY.out _ HB.out) (fun hHeld => ?_)
        clear hK K
        refine norm_ (a' := ?_) ?_ ?_
        rotate_left
        · show Act.put _ (some 47) _ = _
          simp only [Act.put, List.setIfInBounds_toArray, List.set_cons_zero, List.set_cons_succ, i64_w, i32_w]
          rfl
        refine pure_ (i := 13) (N := some 48) (v := ?_) (a' := ?_) #[true, true, true, true, true, true, true, true, true, true, true, true, true, true, false, true, true, true, true, true, false, false, false, false, false, false] rfl rfl (any_of (md := .any) (ops := opsOf Try.f6 10) F6tab10 (by kernel_rfl)) (fun _ _ _ h => h) (Or.inl ⟨by rfl, ?_⟩) ?_ ?_
        rotate_left
        · intro w'
          go_simp
          with_reducible rfl
        rotate_left
        · simp only [Act.put, List.setIfInBounds_toArray, List.set_cons_zero, List.set_cons_succ, i64_w, i32_w]
          rfl
        refine pure_ (i := 14) (N := some 49) (v := ?_) (a' := ?_) #[true, true, true, true, true, true, true, true, true, true, true, true, true, true, true, true, true, true, true, true, false, false, false, false, false, false] rfl rfl (any_of (md := .any) (ops := opsOf Try.f6 10) F6tab10 (by kernel_rfl)) (fun _ _ _ h => h) (Or.inl ⟨by rfl, ?_⟩) ?_ ?_
        rotate_left
        · intro w'
          go_simp
          with_reducible rfl
        rotate_left
        · simp only [Act.put, List.setIfInBounds_toArray, List.set_cons_zero, List.set_cons_succ, i64_w, i32_w]
          rfl
        refine one_ (i := 20) (N := some 55) #[true, true, true, true, true, true, true, true, true, true, true, true, true, true, true, true, true, true, true, true, true, false, false, false, false, false] rfl rfl (one_of (md := .any) (ops := opsOf Try.f6 10) F6tab10 (by kernel_rfl)) (by decide) (fun K hK => ?_)
        refine goes_ Try.func13 (by kernel_rfl) rfl #[.agg #[.int .i64 y.f0, .string y.f1, .slice A2 y.f2.length c2, .bool y.f3, .bool y.f4, .slice A5 y.f5.length c5, .slice A6 y.f6.length c6]] (by rfl) rfl rfl (by (try simp only [List.map_toArray, List.map_cons, List.map_nil]); first | done | rfl) ?_
        refine (nts10_of (nts y).length (NY.out.below HB.out) FY.out rfl (by have := LY.out.2.2; omega)).mono ?_
        rintro e w503 ⟨A55, c55, rfl, _, hb⟩
        refine ⟨_, rfl, ?_⟩
        have n0 := Aside0.mk (below_step HB.out hb); clear HB hb; have HB := n0; clear n0
        refine hK.out _ _ (QY.out _ HB.out) (fun hHeld => ?_)
        clear hK K
        refine norm_ (a' := ?_) ?_ ?_
        rotate_left
        · show Act.put _ (some 55) _ = _
          simp only [Act.put, List.setIfInBounds_toArray, List.set_cons_zero, List.set_cons_succ, i64_w, i32_w]
          rfl
        refine pure_ (i := 21) (N := some 56) (v := ?_) (a' := ?_) #[true, true, true, true, true, true, true, true, true, true, true, true, true, true, true, true, true, true, true, true, true, true, false, false, false, false] rfl rfl (any_of (md := .any) (ops := opsOf Try.f6 10) F6tab10 (by kernel_rfl)) (fun _ _ _ h => h) (Or.inl ⟨by rfl, ?_⟩) ?_ ?_
        rotate_left
        · intro w'
          go_simp
          with_reducible rfl
        rotate_left
        · simp only [Act.put, List.setIfInBounds_toArray, List.set_cons_zero, List.set_cons_succ, i64_w, i32_w]
          rfl
        refine pure_ (i := 22) (N := some 57) (v := ?_) (a' := ?_) #[true, true, true, true, true, true, true, true, true, true, true, true, true, true, true, true, true, true, true, true, true, true, true, false, false, false] rfl rfl (any_of (md := .any) (ops := opsOf Try.f6 10) F6tab10 (by kernel_rfl)) (fun _ _ _ h => h) (Or.inl ⟨by rfl, ?_⟩) ?_ ?_
        rotate_left
        · intro w'
          go_simp
          with_reducible rfl
        rotate_left
        · simp only [Act.put, List.setIfInBounds_toArray, List.set_cons_zero, List.set_cons_succ, i64_w, i32_w]
          rfl
        refine pure_ (i := 23) (N := some 5) (v := ?_) (a' := ?_) #[true, true, true, true, true, true, true, true, true, true, true, true, true, true, true, true, true, true, true, true, true, true, true, true, false, false] rfl rfl (any_of (md := .any) (ops := opsOf Try.f6 10) F6tab10 (by kernel_rfl)) (fun _ _ _ h => h) (Or.inl ⟨by rfl, ?_⟩) ?_ ?_
        rotate_left
        · intro w'
          go_simp
          with_reducible rfl
        rotate_left
        · simp only [Act.put, List.setIfInBounds_toArray, List.set_cons_zero, List.set_cons_succ, i64_w, i32_w]
          rfl
        refine pure_ (i := 24) (N := some 6) (v := ?_) (a' := ?_) #[true, true, true, true, true, true, true, true, true, true, true, true, true, true, true, true, true, true, true, true, true, true, true, true, true, false] rfl rfl (any_of (md := .any) (ops := opsOf Try.f6 10) F6tab10 (by kernel_rfl)) (fun _ _ _ h => h) (Or.inl ⟨by rfl, ?_⟩) ?_ ?_
        rotate_left
        · intro w'
          go_simp
          with_reducible rfl
        rotate_left
        · simp only [Act.put, List.setIfInBounds_toArray, List.set_cons_zero, List.set_cons_succ, i64_w, i32_w]
          rfl
        refine pure_ (i := 25) (N := some 7) (v := ?_) (a' := ?_) #[true, true, true, true, true, true, true, true, true, true, true, true, true, true, true, true, true, true, true, true, true, true, true, true, true, true] rfl rfl (any_of (md := .any) (ops := opsOf Try.f6 10) F6tab10 (by kernel_rfl)) (fun _ _ _ h => h) (Or.inl ⟨by rfl, ?_⟩) ?_ ?_
        rotate_left
        · intro w'
          go_simp
          with_reducible rfl
        rotate_left
        · simp only [Act.put, List.setIfInBounds_toArray, List.set_cons_zero, List.set_cons_succ, i64_w, i32_w]
          rfl
        refine done_ (done_of (md := .any) (ops := opsOf Try.f6 10) F6tab10 (by kernel_rfl)) ?_
        clear hHeld
        obtain ⟨q0, q1, q2, q3, q4, q5, q6⟩ := QY.out _ HB.out
        go_wp2_with (first | ((with_reducible refine gate_dst (N := 64) rfl ?_); (refine gate_guard (by rfl) ?_; dsimp only); refine goesL_ (some 64) rfl rfl Try.func24 (by kernel_rfl) rfl #[.agg #[.int .i64 y.f0, .string y.f1, .slice A2 y.f2.length c2, .bool y.f3, .bool y.f4, .slice A5 y.f5.length c5, .slice A6 y.f6.length c6]] rfl (by (try simp only [List.map_toArray, List.map_cons, List.map_nil]); first | done | rfl) ?_; (refine (frc10_of ((pre y).any forced1) (NY.out.below HB.out) rfl).mono ?_); (rintro e w701 ⟨rfl, hb⟩; refine ⟨_, rfl, ?_⟩; have n0 := Aside0.mk (below_step HB.out hb); clear HB hb; have HB := n0; clear n0; obtain ⟨q0, q1, q2, q3, q4, q5, q6⟩ := QY.out _ HB.out)))
        have E5 := wrap_sum n5 (pre y).length (by have := HS.out.b5; omega) (by have := LY.out.1; omega)
        have E6 := wrap_sum n6 (lits (pre y)).length (by have := HS.out.b6; omega) (by have := LY.out.2.1; omega)
        have E7 := wrap_sum n7 (nts y).length (by have := HS.out.b7; omega) (by have := LY.out.2.2; omega)
        have HS2 := Aside0.mk (HS.out.next hlt y HY.out FY.out LY.out.1 LY.out.2.1 LY.out.2.2)
        rw [E5, E6, E7]
        clear E5 E6 E7
        go_roundg (l.length - (i + 1))
        case measure => have := HK.out; omega
        case rel => exact ⟨i + 1, _, _, _, _, rfl, rfl, rfl, rfl, by simp, by omega, ⟨by have := HK.out; omega⟩, HS2, HB⟩
      · have n0 := Aside0.mk (below_drew1 HB.out)
        clear HB
        have HB := n0
        clear n0
        refine start_ (n := 26) (S := SE ad i y A2 c2 A5 c5 A6 c6) (ds := []) #[false, false, false, false, false, false, false, false, false, false, false, false, false, false, false, false, false, false, false, false, false, false, false, false, false, false] (by kernel_rfl) rfl rfl (QY.out _ HB.out) (fun hHeld => ?_)
        generalize World.drew _ = w500 at HB hHeld ⊢
        refine pure_ (i := 0) (N := some 35) (v := ?_) (a' := ?_) #[true, false, false, false, false, false, false, false, false, false, false, false, false, false, false, false, false, false, false, false, false, false, false, false, false, false] rfl rfl (any_of (md := .any) (ops := opsOf Try.f6 10) F6tab10 (by kernel_rfl)) (fun _ _ _ h => h) (Or.inl ⟨by rfl, ?_⟩) ?_ ?_
        rotate_left
        · intro w'
          go_simp
          with_reducible rfl
        rotate_left
        · simp only [Act.put, List.setIfInBounds_toArray, List.set_cons_zero, List.set_cons_succ, i64_w, i32_w]
          rfl
        refine pure_ (i := 1) (N := some 36) (v := ?_) (a' := ?_) #[true, true, false, false, false, false, false, false, false, false, false, false, false, false, false, false, false, false, false, false, false, false, false, false, false, false] rfl rfl (any_of (md := .any) (ops := opsOf Try.f6 10) F6tab10 (by kernel_rfl)) (fun _ _ _ h => h) (Or.inl ⟨by rfl, ?_⟩) ?_ ?_
        rotate_left
        · intro w'
          go_simp
          with_reducible rfl
        rotate_left
        · simp only [Act.put, List.setIfInBounds_toArray, List.set_cons_zero, List.set_cons_succ, i64_w, i32_w]
          rfl
        refine pure_ (i := 2) (N := some 37) (v := ?_) (a' := ?_) #[true, true, true, false, false, false, false, false, false, false, false, false, false, false, false, false, false, false, false, false, false, false, false, false, false, false] rfl rfl (any_of (md := .any) (ops := opsOf Try.f6 10) F6tab10 (by kernel_rfl)) (fun _ _ _ h => h) (Or.inl ⟨by rfl, ?_⟩) ?_ ?_
        rotate_left
        · intro w'
          go_simp
          with_reducible rfl
        rotate_left
        · simp only [Act.put, List.setIfInBounds_toArray, List.set_cons_zero, List.set_cons_succ, i64_w, i32_w]
          rfl
        refine pure_ (i := 3) (N := some 38) (v := ?_) (a' := ?_) #[true, true, true, true, false, false, false, false, false, false, false, false, false, false, false, false, false, false, false, false, false, false, false, false, false, false] rfl rfl (any_of (md := .any) (ops := opsOf Try.f6 10) F6tab10 (by kernel_rfl)) (fun _ _ _ h => h) (Or.inl ⟨by rfl, ?_⟩) ?_ ?_
        rotate_left
        · intro w'
          go_simp
          with_reducible rfl
        rotate_left
        · simp only [Act.put, List.setIfInBounds_toArray, List.set_cons_zero, List.set_cons_succ, i64_w, i32_w]
          rfl
        refine take_ (i := 4) (N := some 39) (v := ?_) (a' := ?_) #[true, true, true, true, true, false, false, false, false, false, false, false, false, false, false, false, false, false, false, false, false, false, false, false, false, false] rfl rfl (take_of (md := .any) (ops := opsOf Try.f6 10) F6tab10 (by kernel_rfl)) (fun _ _ _ h => h) (Or.inl ⟨by rfl, ?_⟩) hHeld ?_ ?_
        rotate_left
        · rintro w' ⟨s0, s1, s2, s3, s4, s5, s6⟩
          go_simp
          with_reducible rfl
        rotate_left
        · simp only [Act.put, List.setIfInBounds_toArray, List.set_cons_zero, List.set_cons_succ, i64_w, i32_w]
          rfl
        refine pure_ (i := 7) (N := some 42) (v := ?_) (a' := ?_) #[true, true, true, true, true, false, false, true, false, false, false, false, false, false, false, false, false, false, false, false, false, false, false, false, false, false] rfl rfl (any_of (md := .any) (ops := opsOf Try.f6 10) F6tab10 (by kernel_rfl)) (fun _ _ _ h => h) (Or.inl ⟨by rfl, ?_⟩) ?_ ?_
        rotate_left
        · intro w'
          go_simp
          with_reducible rfl
        rotate_left
        · simp only [Act.put, List.setIfInBounds_toArray, List.set_cons_zero, List.set_cons_succ, i64_w, i32_w]
          rfl
        refine pure_ (i := 8) (N := some 43) (v := ?_) (a' := ?_) #[true, true, true, true, true, false, false, true, true, false, false, false, false, false, false, false, false, false, false, false, false, false, false, false, false, false] rfl rfl (any_of (md := .any) (ops := opsOf Try.f6 10) F6tab10 (by kernel_rfl)) (fun _ _ _ h => h) (Or.inl ⟨by rfl, ?_⟩) ?_ ?_
        rotate_left
        · intro w'
          go_simp
          with_reducible rfl
        rotate_left
        · simp only [Act.put, List.setIfInBounds_toArray, List.set_cons_zero, List.set_cons_succ, i64_w, i32_w]
          rfl
        refine pure_ (i := 9) (N := some 44) (v := ?_) (a' := ?_) #[true, true, true, true, true, false, false, true, true, true, false, false, false, false, false, false, false, false, false, false, false, false, false, false, false, false] rfl rfl (any_of (md := .any) (ops := opsOf Try.f6 10) F6tab10 (by kernel_rfl)) (fun _ _ _ h => h) (Or.inl ⟨by rfl, ?_⟩) ?_ ?_
        rotate_left
        · intro w'
          go_simp
          with_reducible rfl
        rotate_left
        · simp only [Act.put, List.setIfInBounds_toArray, List.set_cons_zero, List.set_cons_succ, i64_w, i32_w]
          rfl
        refine pure_ (i := 10) (N := some 45) (v := ?_) (a' := ?_) #[true, true, true, true, true, false, false, true, true, true, true, false, false, false, false, false, false, false, false, false, false, false, false, false, false, false] rfl rfl (any_of (md := .any) (ops := opsOf Try.f6 10) F6tab10 (by kernel_rfl)) (fun _ _ _ h => h) (Or.inl ⟨by rfl, ?_⟩) ?_ ?_
        rotate_left
        · intro w'
          go_simp
          with_reducible rfl
        rotate_left
        · simp only [Act.put, List.setIfInBounds_toArray, List.set_cons_zero, List.set_cons_succ, i64_w, i32_w]
          rfl
        refine take_ (i := 11) (N := some 46) (v := ?_) (a' := ?_) #[true, true, true, true, true, false, false, true, true, true, true, true, false, false, false, false, false, false, false, false, false, false, false, false, false, false] rfl rfl (take_of (md := .any) (ops := opsOf Try.f6 10) F6tab10 (by kernel_rfl)) (fun _ _ _ h => h) (Or.inl ⟨by rfl, ?_⟩) hHeld ?_ ?_
        rotate_left
        · rintro w' ⟨s0, s1, s2, s3, s4, s5, s6⟩
          go_simp
          with_reducible rfl
        rotate_left
        · simp only [Act.put, List.setIfInBounds_toArray, List.set_cons_zero, List.set_cons_succ, i64_w, i32_w]
          rfl
        refine pure_ (i := 15) (N := some 50) (v := ?_) (a' := ?_) #[true, true, true, true, true, false, false, true, true, true, true, true, false, false, false, true, false, false, false, false, false, false, false, false, false, false] rfl rfl (any_of (md := .any) (ops := opsOf Try.f6 10) F6tab10 (by kernel_rfl)) (fun _ _ _ h => h) (Or.inl ⟨by rfl, ?_⟩) ?_ ?_
        rotate_left
        · intro w'
          go_simp
          with_reducible rfl
        rotate_left
        · simp only [Act.put, List.setIfInBounds_toArray, List.set_cons_zero, List.set_cons_succ, i64_w, i32_w]
          rfl
        refine pure_ (i := 16) (N := some 51) (v := ?_) (a' := ?_) #[true, true, true, true, true, false, false, true, true, true, true, true, false, false, false, true, true, false, false, false, false, false, false, false, false, false] rfl rfl (any_of (md := .any) (ops := opsOf Try.f6 10) F6tab10 (by kernel_rfl)) (fun _ _ _ h => h) (Or.inl ⟨by rfl, ?_⟩) ?_ ?_
        rotate_left
        · intro w'
          go_simp
          with_reducible rfl
        rotate_left
        · simp only [Act.put, List.setIfInBounds_toArray, List.set_cons_zero, List.set_cons_succ, i64_w, i32_w]
          rfl
        refine pure_ (i := 17) (N := some 52) (v := ?_) (a' := ?_) #[true, true, true, true, true, false, false, true, true, true, true, true, false, false, false, true, true, true, false, false, false, false, false, false, false, false] rfl rfl (any_of (md := .any) (ops := opsOf Try.f6 10) F6tab10 (by kernel_rfl)) (fun _ _ _ h => h) (Or.inl ⟨by rfl, ?_⟩) ?_ ?_
        rotate_left
        · intro w'
          go_simp
          with_reducible rfl
        rotate_left
        · simp only [Act.put, List.setIfInBounds_toArray, List.set_cons_zero, List.set_cons_succ, i64_w, i32_w]
          rfl
        refine pure_ (i := 18) (N := some 53) (v := ?_) (a' := ?_) #[true, true, true, true, true, false, false, true, true, true, true, true, false, false, false, true, true, true, true, false, false, false, false, false, false, false] rfl rfl (any_of (md := .any) (ops := opsOf Try.f6 10) F6tab10 (by kernel_rfl)) (fun _ _ _ h => h) (Or.inl ⟨by rfl, ?_⟩) ?_ ?_
        rotate_left
        · intro w'
          go_simp
          with_reducible rfl
        rotate_left
        · simp only [Act.put, List.setIfInBounds_toArray, List.set_cons_zero, List.set_cons_succ, i64_w, i32_w]
          rfl
        refine take_ (i := 19) (N := some 54) (v := ?_) (a' := ?_) #[true, true, true, true, true, false, false, true, true, true, true, true, false, false, false, true, true, true, true, true, false, false, false, false, false, false] rfl rfl (take_of (md := .any) (ops := opsOf Try.f6 10) F6tab10 (by kernel_rfl)) (fun _ _ _ h => h) (Or.inl ⟨by rfl, ?_⟩) hHeld ?_ ?_
        rotate_left
        · rintro w' ⟨s0, s1, s2, s3, s4, s5, s6⟩
          go_simp
          with_reducible rfl
        rotate_left
        · simp only [Act.put, List.setIfInBounds_toArray, List.set_cons_zero, List.set_cons_succ, i64_w, i32_w]
          rfl
        refine one_ (i := 5) (N := some 40) #[true, true, true, true, true, true, false, true, true, true, true, true, false, false, false, true, true, true, true, true, false, false, false, false, false, false] rfl rfl (one_of (md := .any) (ops := opsOf Try.f6 10) F6tab10 (by kernel_rfl)) (by decide) (fun K hK => ?_)
        refine goes_ Try.func19 (by kernel_rfl) rfl #[.agg #[.int .i64 y.f0, .string y.f1, .slice A2 y.f2.length c2, .bool y.f3, .bool y.f4, .slice A5 y.f5.length c5, .slice A6 y.f6.length c6]] (by rfl) rfl rfl (by (try simp only [List.map_toArray, List.map_cons, List.map_nil]); first | done | rfl) ?_
        refine (cnt10_of ((pre y).length : Int) (NY.out.below HB.out) (wrap_tiny _ LY.out.1)).mono ?_
        rintro e w501 ⟨rfl, hb⟩
        refine ⟨_, rfl, ?_⟩
        have n0 := Aside0.mk (below_step HB.out hb); clear HB hb; have HB := n0; clear n0
        refine hK.out _ _ (QY.out _ HB.out) (fun hHeld => ?_)
        clear hK K
        refine norm_ (a' := ?_) ?_ ?_
        rotate_left
        · show Act.put _ (some 40) _ = _
          simp only [Act.put, List.setIfInBounds_toArray, List.set_cons_zero, List.set_cons_succ, i64_w, i32_w]
          rfl
        refine pure_ (i := 6) (N := some 41) (v := ?_) (a' := ?_) #[true, true, true, true, true, true, true, true, true, true, true, true, false, false, false, true, true, true, true, true, false, false, false, false, false, false] rfl rfl (any_of (md := .any) (ops := opsOf Try.f6 10) F6tab10 (by kernel_rfl)) (fun _ _ _ h => h) (Or.inl ⟨by rfl, ?_⟩) ?_ ?_
        rotate_left
        · intro w'
          go_simp
          with_reducible rfl
        rotate_left
        · simp only [Act.put, List.setIfInBounds_toArray, List.set_cons_zero, List.set_cons_succ, i64_w, i32_w]
          rfl
        refine one_ (i := 12) (N := some 47) #[true, true, true, true, true, true, true, true, true, true, true, true, true, false, false, true, true, true, true, true, false, false, false, false, false, false] rfl rfl (one_of (md := .any) (ops := opsOf Try.f6 10) F6tab10 (by kernel_rfl)) (by decide) (fun K hK => ?_)
        refine goes_ Try.func12 (by kernel_rfl) rfl #[.agg #[.int .i64 y.f0, .string y.f1, .slice A2 y.f2.length c2, .bool y.f3, .bool y.f4, .slice A5 y.f5.length c5, .slice A6 y.f6.length c6]] (by rfl) rfl rfl (by (try simp only [List.map_toArray, List.map_cons, List.map_nil]); first | done | rfl) ?_
        refine (lits10_of (lits (pre y)).length (NY.out.below HB.out) rfl (by have := LY.out.2.1; omega)).mono ?_
        rintro e w502 ⟨A47, c47, rfl, hb⟩
        refine ⟨_, rfl, ?_⟩
        have n0 := Aside0.mk (below_step HB.out hb); clear HB hb; have HB := n0; clear n0
        refine hK.out _ _ (QY.out _ HB.out) (fun hHeld => ?_)
        clear hK K
        refine norm_ (a' := ?_) ?_ ?_
        rotate_left
        · show Act.put _ (some 47) _ = _
          simp only [Act.put, List.setIfInBounds_toArray, List.set_cons_zero, List.set_cons_succ, i64_w, i32_w]
          rfl
        refine pure_ (i := 13) (N := some 48) (v := ?_) (a' := ?_) #[true, true, true, true, true, true, true, true, true, true, true, true, true, true, false, true, true, true, true, true, false, false, false, false, false, false] rfl rfl (any_of (md := .any) (ops := opsOf Try.f6 10) F6tab10 (by kernel_rfl)) (fun _ _ _ h => h) (Or.inl ⟨by rfl, ?_⟩) ?_ ?_
        rotate_left
        · intro w'
          go_simp
          with_reducible rfl
        rotate_left
        · simp only [Act.put, List.setIfInBounds_toArray, List.set_cons_zero, List.set_cons_succ, i64_w, i32_w]
          rfl
        refine pure_ (i := 14) (N := some 49) (v := ?_) (a' := ?_) #[true, true, true, true, true, true, true, true, true, true, true, true, true, true, true, true, true, true, true, true, false, false, false, false, false, false] rfl rfl (any_of (md := .any) (ops := opsOf Try.f6 10) F6tab10 (by kernel_rfl)) (fun _ _ _ h => h) (Or.inl ⟨by rfl, ?_⟩) ?_ ?_
        rotate_left
        · intro w'
          go_simp
          with_reducible rfl
        rotate_left
        · simp only [Act.put, List.setIfInBounds_toArray, List.set_cons_zero, List.set_cons_succ, i64_w, i32_w]
          rfl
        refine one_ (i := 20) (N := some 55) #[true, true, true, true, true, true, true, true, true, true, true, true, true, true, true, true, true, true, true, true, true, false, false, false, false, false] rfl rfl (one_of (md := .any) (ops := opsOf Try.f6 10) F6tab10 (by kernel_rfl)) (by decide) (fun K hK => ?_)
        refine goes_ Try.func13 (by kernel_rfl) rfl #[.agg #[.int .i64 y.f0, .string y.f1, .slice A2 y.f2.length c2, .bool y.f3, .bool y.f4, .slice A5 y.f5.length c5, .slice A6 y.f6.length c6]] (by rfl) rfl rfl (by (try simp only [List.map_toArray, List.map_cons, List.map_nil]); first | done | rfl) ?_
        refine (nts10_of (nts y).length (NY.out.below HB.out) FY.out rfl (by have := LY.out.2.2; omega)).mono ?_
        rintro e w503 ⟨A55, c55, rfl, _, hb⟩
        refine ⟨_, rfl, ?_⟩
        have n0 := Aside0.mk (below_step HB.out hb); clear HB hb; have HB := n0; clear n0
        refine hK.out _ _ (QY.out _ HB.out) (fun hHeld => ?_)
        clear hK K
        refine norm_ (a' := ?_) ?_ ?_
        rotate_left
        · show Act.put _ (some 55) _ = _
          simp only [Act.put, List.setIfInBounds_toArray, List.set_cons_zero, List.set_cons_succ, i64_w, i32_w]
          rfl
        refine pure_ (i := 21) (N := some 56) (v := ?_) (a' := ?_) #[true, true, true, true, true, true, true, true, true, true, true, true, true, true, true, true, true, true, true, true, true, true, false, false, false, false] rfl rfl (any_of (md := .any) (ops := opsOf Try.f6 10) F6tab10 (by kernel_rfl)) (fun _ _ _ h => h) (Or.inl ⟨by rfl, ?_⟩) ?_ ?_
        rotate_left
        · intro w'
          go_simp
          with_reducible rfl
        rotate_left
        · simp only [Act.put, List.setIfInBounds_toArray, List.set_cons_zero, List.set_cons_succ, i64_w, i32_w]
          rfl
        refine pure_ (i := 22) (N := some 57) (v := ?_) (a' := ?_) #[true, true, true, true, true, true, true, true, true, true, true, true, true, true, true, true, true, true, true, true, true, true, true, false, false, false] rfl rfl (any_of (md := .any) (ops := opsOf Try.f6 10) F6tab10 (by kernel_rfl)) (fun _ _ _ h => h) (Or.inl ⟨by rfl, ?_⟩) ?_ ?_
        rotate_left
        · intro w'
          go_simp
          with_reducible rfl
        rotate_left
        · simp only [Act.put, List.setIfInBounds_toArray, List.set_cons_zero, List.set_cons_succ, i64_w, i32_w]
          rfl
        refine pure_ (i := 23) (N := some 5) (v := ?_) (a' := ?_) #[true, true, true, true, true, true, true, true, true, true, true, true, true, true, true, true, true, true, true, true, true, true, true, true, false, false] rfl rfl (any_of (md := .any) (ops := opsOf Try.f6 10) F6tab10 (by kernel_rfl)) (fun _ _ _ h => h) (Or.inl ⟨by rfl, ?_⟩) ?_ ?_
        rotate_left
        · intro w'
          go_simp
          with_reducible rfl
        rotate_left
        · simp only [Act.put, List.setIfInBounds_toArray, List.set_cons_zero, List.set_cons_succ, i64_w, i32_w]
          rfl
        refine pure_ (i := 24) (N := some 6) (v := ?_) (a' := ?_) #[true, true, true, true, true, true, true, true, true, true, true, true, true, true, true, true, true, true, true, true, true, true, true, true, true, false] rfl rfl (any_of (md := .any) (ops := opsOf Try.f6 10) F6tab10 (by kernel_rfl)) (fun _ _ _ h => h) (Or.inl ⟨by rfl, ?_⟩) ?_ ?_
        rotate_left
        · intro w'
          go_simp
          with_reducible rfl
        rotate_left
        · simp only [Act.put, List.setIfInBounds_toArray, List.set_cons_zero, List.set_cons_succ, i64_w, i32_w]
          rfl
        refine pure_ (i := 25) (N := some 7) (v := ?_) (a' := ?_) #[true, true, true, true, true, true, true, true, true, true, true, true, true, true, true, true, true, true, true, true, true, true, true, true, true, true] rfl rfl (any_of (md := .any) (ops := opsOf Try.f6 10) F6tab10 (by kernel_rfl)) (fun _ _ _ h => h) (Or.inl ⟨by rfl, ?_⟩) ?_ ?_
        rotate_left
        · intro w'
          go_simp
          with_reducible rfl
        rotate_left
        · simp only [Act.put, List.setIfInBounds_toArray, List.set_cons_zero, List.set_cons_succ, i64_w, i32_w]
          rfl
        refine done_ (done_of (md := .any) (ops := opsOf Try.f6 10) F6tab10 (by kernel_rfl)) ?_
        clear hHeld
        obtain ⟨q0, q1, q2, q3, q4, q5, q6⟩ := QY.out _ HB.out
        go_wp2_with fail
        have E5 := wrap_sum n5 (pre y).length (by have := HS.out.b5; omega) (by have := LY.out.1; omega)
        have E6 := wrap_sum n6 (lits (pre y)).length (by have := HS.out.b6; omega) (by have := LY.out.2.1; omega)
        have E7 := wrap_sum n7 (nts y).length (by have := HS.out.b7; omega) (by have := LY.out.2.2; omega)
        have HS2 := Aside0.mk (HS.out.next hlt y HY.out FY.out LY.out.1 LY.out.2.1 LY.out.2.2)
        rw [E5, E6, E7]
        clear E5 E6 E7
        go_roundg (l.length - (i + 1))
        case measure => have := HK.out; omega
        case rel => exact ⟨i + 1, _, _, _, _, rfl, rfl, rfl, rfl, by simp, by omega, ⟨by have := HK.out; omega⟩, HS2, HB⟩
    · obtain rfl : i = l.length := by omega
      go_upto_region 14 with (fail)
      have HF := Aside0.mk (fin26_of (l := l) (fun j hj => HS.out.fin j hj hj))
      have e5 := HS.out.e5
      have e6 := HS.out.e6
      have e7 := HS.out.e7
      have e8 := HS.out.e8
      have b5 := HS.out.b5
      have b6 := HS.out.b6
      have b7 := HS.out.b7
      rw [List.take_length] at e5 e6 e7 e8
      obtain ⟨m, rfl⟩ : ∃ m, n7 = m + 1 := ⟨n7 - 1, by omega⟩
      have EM : Aside0 ((ntsL l).length = m) := ⟨by omega⟩
      have E5 : Aside0 (wrap64 ((pre (xP l)).length : Int) = (n5 : Int)) := ⟨by
        have h5 := H5.out
        rw [pre_xP, List.length_cons]
        unfold wrap64
        omega⟩
      have E6 : Aside0 ((lits (pre (xP l))).length = n6) := ⟨by rw [lits_xP]; exact e6.symm⟩
      have E7 : Aside0 ((nts (yP l s)).length = m + 1) := ⟨by rw [nts_yP, List.length_append, EM.out]; rfl⟩
      have E8 : Aside0 ((pre (xP l)).any forced1 = b) := ⟨by rw [frc_xP]; exact e8.symm⟩
      have B6 : Aside0 (n6 ≤ 8796093022208) := ⟨by have := H5.out; omega⟩
      have B7 : Aside0 (m + 1 < 8796093022208) := ⟨by have := H5.out; omega⟩
      have hm0 : 0 ≤ (m : Int) := by omega
      have hm1 : (m : Int) ≤ 1000000 := by have := H5.out; omega
      have hn0 : 0 ≤ (n5 : Int) := by omega
      clear HS e5 e6 e7 e8 b5 b6 b7
      have BX := Aside0.mk (show ((wr.alloc (.cells #[.int .i64 4, .string (⟨#[]⟩ : ByteArray), .slice A l.length c, .bool false, .bool false, .slice none 0 0, .slice none 0 0] 26 (0, 0))).alloc (.cells #[.int .i64 4, .string (⟨#[]⟩ : ByteArray), .slice A l.length c, .bool false, .bool false, .slice none 0 0, .slice none 0 0] 26 (0, 0))).heap[wr.heap.size]? = some (.cells #[.int .i64 4, .string (⟨#[]⟩ : ByteArray), .slice A l.length c, .bool false, .bool false, .slice none 0 0, .slice none 0 0] 26 (0, 0)) from blk_alloc (blk_new _ _) _)
      have BY := Aside0.mk (show ((wr.alloc (.cells #[.int .i64 4, .string (⟨#[]⟩ : ByteArray), .slice A l.length c, .bool false, .bool false, .slice none 0 0, .slice none 0 0] 26 (0, 0))).alloc (.cells #[.int .i64 4, .string (⟨#[]⟩ : ByteArray), .slice A l.length c, .bool false, .bool false, .slice none 0 0, .slice none 0 0] 26 (0, 0))).heap[wr.heap.size + 1]? = some (.cells #[.int .i64 4, .string (⟨#[]⟩ : ByteArray), .slice A l.length c, .bool false, .bool false, .slice none 0 0, .slice none 0 0] 26 (0, 0)) from by
        have h := blk_new (wr.alloc (.cells #[.int .i64 4, .string (⟨#[]⟩ : ByteArray), .slice A l.length c, .bool false, .bool false, .slice none 0 0, .slice none 0 0] 26 (0, 0))) (.cells #[.int .i64 4, .string (⟨#[]⟩ : ByteArray), .slice A l.length c, .bool false, .bool false, .slice none 0 0, .slice none 0 0] 26 (0, 0))
        rw [show (wr.alloc (.cells #[.int .i64 4, .string (⟨#[]⟩ : ByteArray), .slice A l.length c, .bool false, .bool false, .slice none 0 0, .slice none 0 0] 26 (0, 0))).heap.size = wr.heap.size + 1 from Array.size_push ..] at h
        exact h)
      have HB2 := Aside0.mk (below_alloc (below_alloc HB.out (.cells #[.int .i64 4, .string (⟨#[]⟩ : ByteArray), .slice A l.length c, .bool false, .bool false, .slice none 0 0, .slice none 0 0] 26 (0, 0))) (.cells #[.int .i64 4, .string (⟨#[]⟩ : ByteArray), .slice A l.length c, .bool false, .bool false, .slice none 0 0, .slice none 0 0] 26 (0, 0)))
      have NY := Aside0.mk (show w.heap.size ≤ wr.heap.size + 1 from Nat.le_succ_of_le HB.out.size)
      have NE := Aside0.mk (show wr.heap.size ≠ wr.heap.size + 1 from by omega)
      clear HB
      generalize wr.heap.size + 1 = gy at BY NY NE ⊢
      generalize wr.heap.size = gx at BX NE ⊢
      generalize ((wr.alloc (.cells #[.int .i64 4, .string (⟨#[]⟩ : ByteArray), .slice A l.length c, .bool false, .bool false, .slice none 0 0, .slice none 0 0] 26 (0, 0))).alloc (.cells #[.int .i64 4, .string (⟨#[]⟩ : ByteArray), .slice A l.length c, .bool false, .bool false, .slice none 0 0, .slice none 0 0] 26 (0, 0))) = w150 at BX BY HB2 ⊢
      have HB := HB2
      clear HB2
      have hgy6 : w150.cell? ⟨gy, 6, none⟩ = some (.slice none 0 0) := (blk_cell BY.out 6).trans rfl
      have yf6 := blk_frozen BY.out 6
      go_upto_region 15 with (first | ((with_reducible refine gate_dst (N := 70) rfl ?_); refine lit_evt ?hg (N := 70) ?hd (m := 1) (cs := #[.string s]) (t := 9) ?hr ?_; (case hd => rfl); (case hg => rfl); (case hr => first | (go_simp; done) | (go_simp; rfl)); intro gs hg w161 hbox hb; have NS := Aside0.mk (show gs ≠ gy from by rw [hg]; exact Nat.ne_of_gt (blk_lt BY.out)); have BS := Aside0.mk hbox;  clear hbox hg; have n0 := Aside0.mk (below_step HB.out hb); have n1 := Aside0.mk (blk_below BX.out hb); have n2 := Aside0.mk (blk_below BY.out hb); clear HB BX BY hb; have HB := n0; have BX := n1; have BY := n2; clear n0 n1 n2; have hgy6 : w161.cell? ⟨gy, 6, none⟩ = some (.slice none 0 0) := (blk_cell BY.out 6).trans rfl; have yf6 := blk_frozen BY.out 6))
      have IV := Aside0.mk (show IvP w (w161.setCell ⟨gy, 6, none⟩ (.slice (some ⟨gs, 0, none⟩) 1 1)) gx gy gs l A c s from ⟨below_set HB.out NY.out, HL.out, HC.out, blk_far BX.out NE.out _, blk_put BY.out 6 _ rfl, blk_far BS.out NS.out _⟩)
      clear HB BX BY BS NS NE NY hgy6 yf6
      generalize (w161.setCell ⟨gy, 6, none⟩ (.slice (some ⟨gs, 0, none⟩) 1 1)) = w170 at IV ⊢
      have hgx0 : w170.cell? ⟨gx, 0, none⟩ = some (.int .i64 4) := (blk_cell IV.out.bx 0).trans rfl; have hgx1 : w170.cell? ⟨gx, 1, none⟩ = some (.string (⟨#[]⟩ : ByteArray)) := (blk_cell IV.out.bx 1).trans rfl; have hgx2 : w170.cell? ⟨gx, 2, none⟩ = some (.slice A l.length c) := (blk_cell IV.out.bx 2).trans rfl; have hgx3 : w170.cell? ⟨gx, 3, none⟩ = some (.bool false) := (blk_cell IV.out.bx 3).trans rfl; have hgx4 : w170.cell? ⟨gx, 4, none⟩ = some (.bool false) := (blk_cell IV.out.bx 4).trans rfl; have hgx5 : w170.cell? ⟨gx, 5, none⟩ = some (.slice none 0 0) := (blk_cell IV.out.bx 5).trans rfl; have hgx6 : w170.cell? ⟨gx, 6, none⟩ = some (.slice none 0 0) := (blk_cell IV.out.bx 6).trans rfl; have hgy0 : w170.cell? ⟨gy, 0, none⟩ = some (.int .i64 4) := (blk_cell IV.out.by_ 0).trans rfl; have hgy1 : w170.cell? ⟨gy, 1, none⟩ = some (.string (⟨#[]⟩ : ByteArray)) := (blk_cell IV.out.by_ 1).trans rfl; have hgy2 : w170.cell? ⟨gy, 2, none⟩ = some (.slice A l.length c) := (blk_cell IV.out.by_ 2).trans rfl; have hgy3 : w170.cell? ⟨gy, 3, none⟩ = some (.bool false) := (blk_cell IV.out.by_ 3).trans rfl; have hgy4 : w170.cell? ⟨gy, 4, none⟩ = some (.bool false) := (blk_cell IV.out.by_ 4).trans rfl; have hgy5 : w170.cell? ⟨gy, 5, none⟩ = some (.slice none 0 0) := (blk_cell IV.out.by_ 5).trans rfl; have hgy6 : w170.cell? ⟨gy, 6, none⟩ = some (.slice (some ⟨gs, 0, none⟩) 1 1) := (blk_cell IV.out.by_ 6).trans rfl
      go_wp2_with (first | ((with_reducible refine gate_dst (N := 73) rfl ?_); refine goesL_ (some 73) rfl rfl Try.func13 (by kernel_rfl) rfl #[.agg #[.int .i64 4, .string (⟨#[]⟩ : ByteArray), .slice A l.length c, .bool false, .bool false, .slice none 0 0, .slice (some ⟨gs, 0, none⟩) 1 1]] rfl (by (try simp only [List.map_toArray, List.map_cons, List.map_nil]); first | done | rfl) ?_; (refine (nts10_of (m + 1) IV.out.ny (fin_yP l s H5.out HF.out) E7.out B7.out).mono ?_); (rintro e w801 ⟨A73, c73, rfl, ⟨g73, q73⟩, hb⟩; refine ⟨_, rfl, ?_⟩; obtain ⟨ad, e73, ht0⟩ := last_at g73 EM.out; subst e73; have HT0 := Aside0.mk ht0; clear g73; have n0 := Aside0.mk (IV.out.step hb); clear IV hb; have IV := n0; clear n0; clear hgx0 hgx1 hgx2 hgx3 hgx4 hgx5 hgx6 hgy0 hgy1 hgy2 hgy3 hgy4 hgy5 hgy6; have hgx0 : w801.cell? ⟨gx, 0, none⟩ = some (.int .i64 4) := (blk_cell IV.out.bx 0).trans rfl; have hgx1 : w801.cell? ⟨gx, 1, none⟩ = some (.string (⟨#[]⟩ : ByteArray)) := (blk_cell IV.out.bx 1).trans rfl; have hgx2 : w801.cell? ⟨gx, 2, none⟩ = some (.slice A l.length c) := (blk_cell IV.out.bx 2).trans rfl; have hgx3 : w801.cell? ⟨gx, 3, none⟩ = some (.bool false) := (blk_cell IV.out.bx 3).trans rfl; have hgx4 : w801.cell? ⟨gx, 4, none⟩ = some (.bool false) := (blk_cell IV.out.bx 4).trans rfl; have hgx5 : w801.cell? ⟨gx, 5, none⟩ = some (.slice none 0 0) := (blk_cell IV.out.bx 5).trans rfl; have hgx6 : w801.cell? ⟨gx, 6, none⟩ = some (.slice none 0 0) := (blk_cell IV.out.bx 6).trans rfl; have hgy0 : w801.cell? ⟨gy, 0, none⟩ = some (.int .i64 4) := (blk_cell IV.out.by_ 0).trans rfl; have hgy1 : w801.cell? ⟨gy, 1, none⟩ = some (.string (⟨#[]⟩ : ByteArray)) := (blk_cell IV.out.by_ 1).trans rfl; have hgy2 : w801.cell? ⟨gy, 2, none⟩ = some (.slice A l.length c) := (blk_cell IV.out.by_ 2).trans rfl; have hgy3 : w801.cell? ⟨gy, 3, none⟩ = some (.bool false) := (blk_cell IV.out.by_ 3).trans rfl; have hgy4 : w801.cell? ⟨gy, 4, none⟩ = some (.bool false) := (blk_cell IV.out.by_ 4).trans rfl; have hgy5 : w801.cell? ⟨gy, 5, none⟩ = some (.slice none 0 0) := (blk_cell IV.out.by_ 5).trans rfl; have hgy6 : w801.cell? ⟨gy, 6, none⟩ = some (.slice (some ⟨gs, 0, none⟩) 1 1) := (blk_cell IV.out.by_ 6).trans rfl)) | ((with_reducible refine gate_dst (N := 74) rfl ?_); refine goesL_ (some 74) rfl rfl Try.func11 (by kernel_rfl) rfl #[] rfl (by (try simp only [List.map_toArray, List.map_cons, List.map_nil]); first | done | rfl) ?_; (refine (galleylaw10_told.calls true _ rfl).mono ?_); (rintro e w802 ⟨rfl, hb⟩; refine ⟨_, rfl, ?_⟩; have n0 := Aside0.mk (IV.out.step hb); have n1 := Aside0.mk ((hb.cell (World.block_lt_of_cell? _ _ HT0.out)).trans HT0.out); clear IV HT0 ht0 hb; have IV := n0; have HT0 := n1; have ht0 := HT0.out; clear n0 n1; clear hgx0 hgx1 hgx2 hgx3 hgx4 hgx5 hgx6 hgy0 hgy1 hgy2 hgy3 hgy4 hgy5 hgy6; have hgx0 : w802.cell? ⟨gx, 0, none⟩ = some (.int .i64 4) := (blk_cell IV.out.bx 0).trans rfl; have hgx1 : w802.cell? ⟨gx, 1, none⟩ = some (.string (⟨#[]⟩ : ByteArray)) := (blk_cell IV.out.bx 1).trans rfl; have hgx2 : w802.cell? ⟨gx, 2, none⟩ = some (.slice A l.length c) := (blk_cell IV.out.bx 2).trans rfl; have hgx3 : w802.cell? ⟨gx, 3, none⟩ = some (.bool false) := (blk_cell IV.out.bx 3).trans rfl; have hgx4 : w802.cell? ⟨gx, 4, none⟩ = some (.bool false) := (blk_cell IV.out.bx 4).trans rfl; have hgx5 : w802.cell? ⟨gx, 5, none⟩ = some (.slice none 0 0) := (blk_cell IV.out.bx 5).trans rfl; have hgx6 : w802.cell? ⟨gx, 6, none⟩ = some (.slice none 0 0) := (blk_cell IV.out.bx 6).trans rfl; have hgy0 : w802.cell? ⟨gy, 0, none⟩ = some (.int .i64 4) := (blk_cell IV.out.by_ 0).trans rfl; have hgy1 : w802.cell? ⟨gy, 1, none⟩ = some (.string (⟨#[]⟩ : ByteArray)) := (blk_cell IV.out.by_ 1).trans rfl; have hgy2 : w802.cell? ⟨gy, 2, none⟩ = some (.slice A l.length c) := (blk_cell IV.out.by_ 2).trans rfl; have hgy3 : w802.cell? ⟨gy, 3, none⟩ = some (.bool false) := (blk_cell IV.out.by_ 3).trans rfl; have hgy4 : w802.cell? ⟨gy, 4, none⟩ = some (.bool false) := (blk_cell IV.out.by_ 4).trans rfl; have hgy5 : w802.cell? ⟨gy, 5, none⟩ = some (.slice none 0 0) := (blk_cell IV.out.by_ 5).trans rfl; have hgy6 : w802.cell? ⟨gy, 6, none⟩ = some (.slice (some ⟨gs, 0, none⟩) 1 1) := (blk_cell IV.out.by_ 6).trans rfl)) | ((with_reducible refine gate_dst (N := 77) rfl ?_); (refine gate_guard (by rfl) ?_; dsimp only); refine goesL_ (some 77) rfl rfl Try.func19 (by kernel_rfl) rfl #[.agg #[.int .i64 4, .string (⟨#[]⟩ : ByteArray), .slice A l.length c, .bool false, .bool false, .slice none 0 0, .slice none 0 0]] rfl (by (try simp only [List.map_toArray, List.map_cons, List.map_nil]); first | done | rfl) ?_; (refine (cnt10_of (n5 : Int) IV.out.nx E5.out).mono ?_); (rintro e w803 ⟨rfl, hb⟩; refine ⟨_, rfl, ?_⟩; have n0 := Aside0.mk (IV.out.step hb); have n1 := Aside0.mk ((hb.cell (World.block_lt_of_cell? _ _ HT0.out)).trans HT0.out); clear IV HT0 ht0 hb; have IV := n0; have HT0 := n1; have ht0 := HT0.out; clear n0 n1; clear hgx0 hgx1 hgx2 hgx3 hgx4 hgx5 hgx6 hgy0 hgy1 hgy2 hgy3 hgy4 hgy5 hgy6; have hgx0 : w803.cell? ⟨gx, 0, none⟩ = some (.int .i64 4) := (blk_cell IV.out.bx 0).trans rfl; have hgx1 : w803.cell? ⟨gx, 1, none⟩ = some (.string (⟨#[]⟩ : ByteArray)) := (blk_cell IV.out.bx 1).trans rfl; have hgx2 : w803.cell? ⟨gx, 2, none⟩ = some (.slice A l.length c) := (blk_cell IV.out.bx 2).trans rfl; have hgx3 : w803.cell? ⟨gx, 3, none⟩ = some (.bool false) := (blk_cell IV.out.bx 3).trans rfl; have hgx4 : w803.cell? ⟨gx, 4, none⟩ = some (.bool false) := (blk_cell IV.out.bx 4).trans rfl; have hgx5 : w803.cell? ⟨gx, 5, none⟩ = some (.slice none 0 0) := (blk_cell IV.out.bx 5).trans rfl; have hgx6 : w803.cell? ⟨gx, 6, none⟩ = some (.slice none 0 0) := (blk_cell IV.out.bx 6).trans rfl; have hgy0 : w803.cell? ⟨gy, 0, none⟩ = some (.int .i64 4) := (blk_cell IV.out.by_ 0).trans rfl; have hgy1 : w803.cell? ⟨gy, 1, none⟩ = some (.string (⟨#[]⟩ : ByteArray)) := (blk_cell IV.out.by_ 1).trans rfl; have hgy2 : w803.cell? ⟨gy, 2, none⟩ = some (.slice A l.length c) := (blk_cell IV.out.by_ 2).trans rfl; have hgy3 : w803.cell? ⟨gy, 3, none⟩ = some (.bool false) := (blk_cell IV.out.by_ 3).trans rfl; have hgy4 : w803.cell? ⟨gy, 4, none⟩ = some (.bool false) := (blk_cell IV.out.by_ 4).trans rfl; have hgy5 : w803.cell? ⟨gy, 5, none⟩ = some (.slice none 0 0) := (blk_cell IV.out.by_ 5).trans rfl; have hgy6 : w803.cell? ⟨gy, 6, none⟩ = some (.slice (some ⟨gs, 0, none⟩) 1 1) := (blk_cell IV.out.by_ 6).trans rfl)) | ((with_reducible refine gate_dst (N := 83) rfl ?_); (refine gate_guard (by rfl) ?_; dsimp only); refine goesL_ (some 83) rfl rfl Try.func12 (by kernel_rfl) rfl #[.agg #[.int .i64 4, .string (⟨#[]⟩ : ByteArray), .slice A l.length c, .bool false, .bool false, .slice none 0 0, .slice none 0 0]] rfl (by (try simp only [List.map_toArray, List.map_cons, List.map_nil]); first | done | rfl) ?_; (refine (lits10_of n6 IV.out.nx E6.out B6.out).mono ?_); (rintro e w804 ⟨A83, c83, rfl, hb⟩; refine ⟨_, rfl, ?_⟩; have n0 := Aside0.mk (IV.out.step hb); have n1 := Aside0.mk ((hb.cell (World.block_lt_of_cell? _ _ HT0.out)).trans HT0.out); clear IV HT0 ht0 hb; have IV := n0; have HT0 := n1; have ht0 := HT0.out; clear n0 n1; clear hgx0 hgx1 hgx2 hgx3 hgx4 hgx5 hgx6 hgy0 hgy1 hgy2 hgy3 hgy4 hgy5 hgy6; have hgx0 : w804.cell? ⟨gx, 0, none⟩ = some (.int .i64 4) := (blk_cell IV.out.bx 0).trans rfl; have hgx1 : w804.cell? ⟨gx, 1, none⟩ = some (.string (⟨#[]⟩ : ByteArray)) := (blk_cell IV.out.bx 1).trans rfl; have hgx2 : w804.cell? ⟨gx, 2, none⟩ = some (.slice A l.length c) := (blk_cell IV.out.bx 2).trans rfl; have hgx3 : w804.cell? ⟨gx, 3, none⟩ = some (.bool false) := (blk_cell IV.out.bx 3).trans rfl; have hgx4 : w804.cell? ⟨gx, 4, none⟩ = some (.bool false) := (blk_cell IV.out.bx 4).trans rfl; have hgx5 : w804.cell? ⟨gx, 5, none⟩ = some (.slice none 0 0) := (blk_cell IV.out.bx 5).trans rfl; have hgx6 : w804.cell? ⟨gx, 6, none⟩ = some (.slice none 0 0) := (blk_cell IV.out.bx 6).trans rfl; have hgy0 : w804.cell? ⟨gy, 0, none⟩ = some (.int .i64 4) := (blk_cell IV.out.by_ 0).trans rfl; have hgy1 : w804.cell? ⟨gy, 1, none⟩ = some (.string (⟨#[]⟩ : ByteArray)) := (blk_cell IV.out.by_ 1).trans rfl; have hgy2 : w804.cell? ⟨gy, 2, none⟩ = some (.slice A l.length c) := (blk_cell IV.out.by_ 2).trans rfl; have hgy3 : w804.cell? ⟨gy, 3, none⟩ = some (.bool false) := (blk_cell IV.out.by_ 3).trans rfl; have hgy4 : w804.cell? ⟨gy, 4, none⟩ = some (.bool false) := (blk_cell IV.out.by_ 4).trans rfl; have hgy5 : w804.cell? ⟨gy, 5, none⟩ = some (.slice none 0 0) := (blk_cell IV.out.by_ 5).trans rfl; have hgy6 : w804.cell? ⟨gy, 6, none⟩ = some (.slice (some ⟨gs, 0, none⟩) 1 1) := (blk_cell IV.out.by_ 6).trans rfl)) | ((with_reducible refine gate_dst (N := 106) rfl ?_); (refine gate_guard (by rfl) ?_; dsimp only); refine goesL_ (some 106) rfl rfl Try.func24 (by kernel_rfl) rfl #[.agg #[.int .i64 4, .string (⟨#[]⟩ : ByteArray), .slice A l.length c, .bool false, .bool false, .slice none 0 0, .slice none 0 0]] rfl (by (try simp only [List.map_toArray, List.map_cons, List.map_nil]); first | done | rfl) ?_; (refine (frc10_of b IV.out.nx E8.out).mono ?_); (rintro e w805 ⟨rfl, hb⟩; refine ⟨_, rfl, ?_⟩; have n0 := Aside0.mk (IV.out.step hb); have n1 := Aside0.mk ((hb.cell (World.block_lt_of_cell? _ _ HT0.out)).trans HT0.out); clear IV HT0 ht0 hb; have IV := n0; have HT0 := n1; have ht0 := HT0.out; clear n0 n1; clear hgx0 hgx1 hgx2 hgx3 hgx4 hgx5 hgx6 hgy0 hgy1 hgy2 hgy3 hgy4 hgy5 hgy6; have hgx0 : w805.cell? ⟨gx, 0, none⟩ = some (.int .i64 4) := (blk_cell IV.out.bx 0).trans rfl; have hgx1 : w805.cell? ⟨gx, 1, none⟩ = some (.string (⟨#[]⟩ : ByteArray)) := (blk_cell IV.out.bx 1).trans rfl; have hgx2 : w805.cell? ⟨gx, 2, none⟩ = some (.slice A l.length c) := (blk_cell IV.out.bx 2).trans rfl; have hgx3 : w805.cell? ⟨gx, 3, none⟩ = some (.bool false) := (blk_cell IV.out.bx 3).trans rfl; have hgx4 : w805.cell? ⟨gx, 4, none⟩ = some (.bool false) := (blk_cell IV.out.bx 4).trans rfl; have hgx5 : w805.cell? ⟨gx, 5, none⟩ = some (.slice none 0 0) := (blk_cell IV.out.bx 5).trans rfl; have hgx6 : w805.cell? ⟨gx, 6, none⟩ = some (.slice none 0 0) := (blk_cell IV.out.bx 6).trans rfl; have hgy0 : w805.cell? ⟨gy, 0, none⟩ = some (.int .i64 4) := (blk_cell IV.out.by_ 0).trans rfl; have hgy1 : w805.cell? ⟨gy, 1, none⟩ = some (.string (⟨#[]⟩ : ByteArray)) := (blk_cell IV.out.by_ 1).trans rfl; have hgy2 : w805.cell? ⟨gy, 2, none⟩ = some (.slice A l.length c) := (blk_cell IV.out.by_ 2).trans rfl; have hgy3 : w805.cell? ⟨gy, 3, none⟩ = some (.bool false) := (blk_cell IV.out.by_ 3).trans rfl; have hgy4 : w805.cell? ⟨gy, 4, none⟩ = some (.bool false) := (blk_cell IV.out.by_ 4).trans rfl; have hgy5 : w805.cell? ⟨gy, 5, none⟩ = some (.slice none 0 0) := (blk_cell IV.out.by_ 5).trans rfl; have hgy6 : w805.cell? ⟨gy, 6, none⟩ = some (.slice (some ⟨gs, 0, none⟩) 1 1) := (blk_cell IV.out.by_ 6).trans rfl)) | ((with_reducible refine gate_dst (N := 112) rfl ?_); (refine gate_guard (by rfl) ?_; dsimp only); refine goesL_ (some 112) rfl rfl Try.func24 (by kernel_rfl) rfl #[.agg #[.int .i64 4, .string (⟨#[]⟩ : ByteArray), .slice A l.length c, .bool false, .bool false, .slice none 0 0, .slice (some ⟨gs, 0, none⟩) 1 1]] rfl (by (try simp only [List.map_toArray, List.map_cons, List.map_nil]); first | done | rfl) ?_; (refine (frc10_of true IV.out.ny (frc_yP l s)).mono ?_); (rintro e w806 ⟨rfl, hb⟩; refine ⟨_, rfl, ?_⟩; have n0 := Aside0.mk (IV.out.step hb); have n1 := Aside0.mk ((hb.cell (World.block_lt_of_cell? _ _ HT0.out)).trans HT0.out); clear IV HT0 ht0 hb; have IV := n0; have HT0 := n1; have ht0 := HT0.out; clear n0 n1; clear hgx0 hgx1 hgx2 hgx3 hgx4 hgx5 hgx6 hgy0 hgy1 hgy2 hgy3 hgy4 hgy5 hgy6; have hgx0 : w806.cell? ⟨gx, 0, none⟩ = some (.int .i64 4) := (blk_cell IV.out.bx 0).trans rfl; have hgx1 : w806.cell? ⟨gx, 1, none⟩ = some (.string (⟨#[]⟩ : ByteArray)) := (blk_cell IV.out.bx 1).trans rfl; have hgx2 : w806.cell? ⟨gx, 2, none⟩ = some (.slice A l.length c) := (blk_cell IV.out.bx 2).trans rfl; have hgx3 : w806.cell? ⟨gx, 3, none⟩ = some (.bool false) := (blk_cell IV.out.bx 3).trans rfl; have hgx4 : w806.cell? ⟨gx, 4, none⟩ = some (.bool false) := (blk_cell IV.out.bx 4).trans rfl; have hgx5 : w806.cell? ⟨gx, 5, none⟩ = some (.slice none 0 0) := (blk_cell IV.out.bx 5).trans rfl; have hgx6 : w806.cell? ⟨gx, 6, none⟩ = some (.slice none 0 0) := (blk_cell IV.out.bx 6).trans rfl; have hgy0 : w806.cell? ⟨gy, 0, none⟩ = some (.int .i64 4) := (blk_cell IV.out.by_ 0).trans rfl; have hgy1 : w806.cell? ⟨gy, 1, none⟩ = some (.string (⟨#[]⟩ : ByteArray)) := (blk_cell IV.out.by_ 1).trans rfl; have hgy2 : w806.cell? ⟨gy, 2, none⟩ = some (.slice A l.length c) := (blk_cell IV.out.by_ 2).trans rfl; have hgy3 : w806.cell? ⟨gy, 3, none⟩ = some (.bool false) := (blk_cell IV.out.by_ 3).trans rfl; have hgy4 : w806.cell? ⟨gy, 4, none⟩ = some (.bool false) := (blk_cell IV.out.by_ 4).trans rfl; have hgy5 : w806.cell? ⟨gy, 5, none⟩ = some (.slice none 0 0) := (blk_cell IV.out.by_ 5).trans rfl; have hgy6 : w806.cell? ⟨gy, 6, none⟩ = some (.slice (some ⟨gs, 0, none⟩) 1 1) := (blk_cell IV.out.by_ 6).trans rfl)) | ((with_reducible refine gate_dst (N := 117) rfl ?_); (refine gate_guard (by rfl) ?_; dsimp only); refine goesL_ (some 117) rfl rfl Try.func18 (by kernel_rfl) rfl #[.agg #[.int .i64 4, .string (⟨#[]⟩ : ByteArray), .slice A l.length c, .bool false, .bool false, .slice none 0 0, .slice none 0 0], .agg #[.int .i64 4, .string (⟨#[]⟩ : ByteArray), .slice A l.length c, .bool false, .bool false, .slice none 0 0, .slice (some ⟨gs, 0, none⟩) 1 1]] rfl (by (try simp only [List.map_toArray, List.map_cons, List.map_nil]); first | done | rfl) ?_; (refine (like9_of false IV.out.nx IV.out.ny (fin_xP l H5.out HF.out) (like_xy l s)).mono ?_); (rintro e w807 ⟨rfl, hb⟩; refine ⟨_, rfl, ?_⟩; have n0 := Aside0.mk (IV.out.step hb); have n1 := Aside0.mk ((hb.cell (World.block_lt_of_cell? _ _ HT0.out)).trans HT0.out); clear IV HT0 ht0 hb; have IV := n0; have HT0 := n1; have ht0 := HT0.out; clear n0 n1; clear hgx0 hgx1 hgx2 hgx3 hgx4 hgx5 hgx6 hgy0 hgy1 hgy2 hgy3 hgy4 hgy5 hgy6; have hgx0 : w807.cell? ⟨gx, 0, none⟩ = some (.int .i64 4) := (blk_cell IV.out.bx 0).trans rfl; have hgx1 : w807.cell? ⟨gx, 1, none⟩ = some (.string (⟨#[]⟩ : ByteArray)) := (blk_cell IV.out.bx 1).trans rfl; have hgx2 : w807.cell? ⟨gx, 2, none⟩ = some (.slice A l.length c) := (blk_cell IV.out.bx 2).trans rfl; have hgx3 : w807.cell? ⟨gx, 3, none⟩ = some (.bool false) := (blk_cell IV.out.bx 3).trans rfl; have hgx4 : w807.cell? ⟨gx, 4, none⟩ = some (.bool false) := (blk_cell IV.out.bx 4).trans rfl; have hgx5 : w807.cell? ⟨gx, 5, none⟩ = some (.slice none 0 0) := (blk_cell IV.out.bx 5).trans rfl; have hgx6 : w807.cell? ⟨gx, 6, none⟩ = some (.slice none 0 0) := (blk_cell IV.out.bx 6).trans rfl; have hgy0 : w807.cell? ⟨gy, 0, none⟩ = some (.int .i64 4) := (blk_cell IV.out.by_ 0).trans rfl; have hgy1 : w807.cell? ⟨gy, 1, none⟩ = some (.string (⟨#[]⟩ : ByteArray)) := (blk_cell IV.out.by_ 1).trans rfl; have hgy2 : w807.cell? ⟨gy, 2, none⟩ = some (.slice A l.length c) := (blk_cell IV.out.by_ 2).trans rfl; have hgy3 : w807.cell? ⟨gy, 3, none⟩ = some (.bool false) := (blk_cell IV.out.by_ 3).trans rfl; have hgy4 : w807.cell? ⟨gy, 4, none⟩ = some (.bool false) := (blk_cell IV.out.by_ 4).trans rfl; have hgy5 : w807.cell? ⟨gy, 5, none⟩ = some (.slice none 0 0) := (blk_cell IV.out.by_ 5).trans rfl; have hgy6 : w807.cell? ⟨gy, 6, none⟩ = some (.slice (some ⟨gs, 0, none⟩) 1 1) := (blk_cell IV.out.by_ 6).trans rfl)) | ((with_reducible refine gate_dst (N := 123) rfl ?_); (refine gate_guard (by rfl) ?_; dsimp only); refine goesL_ (some 123) rfl rfl Try.func17 (by kernel_rfl) rfl #[.agg #[.int .i64 4, .string (⟨#[]⟩ : ByteArray), .slice A l.length c, .bool false, .bool false, .slice none 0 0, .slice none 0 0], .agg #[.int .i64 4, .string (⟨#[]⟩ : ByteArray), .slice A l.length c, .bool false, .bool false, .slice none 0 0, .slice (some ⟨gs, 0, none⟩) 1 1]] rfl (by (try simp only [List.map_toArray, List.map_cons, List.map_nil]); first | done | rfl) ?_; (refine (like10_of false IV.out.nx IV.out.ny (like_xy l s)).mono ?_); (rintro e w808 ⟨rfl, hb⟩; refine ⟨_, rfl, ?_⟩; have n0 := Aside0.mk (IV.out.step hb); have n1 := Aside0.mk ((hb.cell (World.block_lt_of_cell? _ _ HT0.out)).trans HT0.out); clear IV HT0 ht0 hb; have IV := n0; have HT0 := n1; have ht0 := HT0.out; clear n0 n1; clear hgx0 hgx1 hgx2 hgx3 hgx4 hgx5 hgx6 hgy0 hgy1 hgy2 hgy3 hgy4 hgy5 hgy6; have hgx0 : w808.cell? ⟨gx, 0, none⟩ = some (.int .i64 4) := (blk_cell IV.out.bx 0).trans rfl; have hgx1 : w808.cell? ⟨gx, 1, none⟩ = some (.string (⟨#[]⟩ : ByteArray)) := (blk_cell IV.out.bx 1).trans rfl; have hgx2 : w808.cell? ⟨gx, 2, none⟩ = some (.slice A l.length c) := (blk_cell IV.out.bx 2).trans rfl; have hgx3 : w808.cell? ⟨gx, 3, none⟩ = some (.bool false) := (blk_cell IV.out.bx 3).trans rfl; have hgx4 : w808.cell? ⟨gx, 4, none⟩ = some (.bool false) := (blk_cell IV.out.bx 4).trans rfl; have hgx5 : w808.cell? ⟨gx, 5, none⟩ = some (.slice none 0 0) := (blk_cell IV.out.bx 5).trans rfl; have hgx6 : w808.cell? ⟨gx, 6, none⟩ = some (.slice none 0 0) := (blk_cell IV.out.bx 6).trans rfl; have hgy0 : w808.cell? ⟨gy, 0, none⟩ = some (.int .i64 4) := (blk_cell IV.out.by_ 0).trans rfl; have hgy1 : w808.cell? ⟨gy, 1, none⟩ = some (.string (⟨#[]⟩ : ByteArray)) := (blk_cell IV.out.by_ 1).trans rfl; have hgy2 : w808.cell? ⟨gy, 2, none⟩ = some (.slice A l.length c) := (blk_cell IV.out.by_ 2).trans rfl; have hgy3 : w808.cell? ⟨gy, 3, none⟩ = some (.bool false) := (blk_cell IV.out.by_ 3).trans rfl; have hgy4 : w808.cell? ⟨gy, 4, none⟩ = some (.bool false) := (blk_cell IV.out.by_ 4).trans rfl; have hgy5 : w808.cell? ⟨gy, 5, none⟩ = some (.slice none 0 0) := (blk_cell IV.out.by_ 5).trans rfl; have hgy6 : w808.cell? ⟨gy, 6, none⟩ = some (.slice (some ⟨gs, 0, none⟩) 1 1) := (blk_cell IV.out.by_ 6).trans rfl)))
      go_ret
      exact ⟨rfl, IV.out.hb⟩
theorem TreeParts_walk {w : World} (l : List S26) (A : Option Addr) (c : Nat) (hc : l.length ≤ c) (hl : Kd.C k26 w A l.length l) (s : ByteArray) (hs : s.size ≤ 140737488351232) : Calls Try.prog 6 #[.slice A l.length c, .string s] w fun e w' => e = .returned (.bool true) ∧ Below w.heap.size w w' := by
  cases h6 : decide (5 < (l.length : Int))
  · cases h7 : decide (50 < (s.size : Int))
    · exact parts_3 l A c s w hl hc hs h6 h7 (by have : ¬ (5 < (l.length : Int)) := of_decide_eq_false h6; omega)
    · exact parts_2 l A c s w hl hc hs h6 h7
  · exact parts_1 l A c s w hl hc hs h6
end Go.Proofs.Ytjlnlonioknkhaa.PA

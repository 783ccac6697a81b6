/- Walks of tree.Walk: whatever its closure does to a state, it does for each node, each ahead of what it has. -/
import Derived.Test.YtjlnlonioknkhaaPAx0
namespace Go.Proofs.Ytjlnlonioknkhaa.PA
open Go.RowKit Go.Proofs.YtjlnlonioknkhaaW.PrintWords Go.Proofs.YtjlnlonioknkhaaW.PrintLast Go.Proofs.YtjlnlonioknkhaaW.PrintMore
set_option linter.unusedVariables false
set_option linter.unusedSimpArgs false

/-- Blocks of nodes and documents stay as they are. -/
structure Keeps (w w' : World) : Prop where
  size : w.heap.size ≤ w'.heap.size
  keep : ∀ (i : Nat) (cs : Array Value) (t : TypeId), (t = 26 ∨ t = 40) → w.heap[i]? = some (.cells cs t (0, 0)) → w'.heap[i]? = some (.cells cs t (0, 0))
theorem Keeps.refl (w : World) : Keeps w w := ⟨Nat.le_refl _, fun _ _ _ _ h => h⟩
theorem Keeps.trans {a b c : World} (h : Keeps a b) (k : Keeps b c) : Keeps a c := ⟨Nat.le_trans h.size k.size, fun i cs t ht hc => k.keep i cs t ht (h.keep i cs t ht hc)⟩
theorem Keeps.alloc {a b : World} (h : Keeps a b) (o : Obj) : Keeps a (b.alloc o) := ⟨Nat.le_trans h.size (by simp), fun i cs t ht hc => blk_alloc (h.keep i cs t ht hc) o⟩
theorem Keeps.drewN {a b : World} (h : Keeps a b) (n : Nat) : Keeps a (b.drewN n) := ⟨h.size, fun i cs t ht hc => h.keep i cs t ht hc⟩
theorem Keeps.below {a b c : World} (h : Keeps a b) (hb : Below b.heap.size b c) : Keeps a c := ⟨Nat.le_trans h.size hb.size, fun i cs t ht hc => blk_below (h.keep i cs t ht hc) hb⟩
theorem Keeps.set {a b : World} (h : Keeps a b) {g : Nat} {cs : Array Value} {t : TypeId} (hg : b.heap[g]? = some (.cells cs t (0, 0))) (ht : t ≠ 26 ∧ t ≠ 40) (j : Nat) (u : Value) : Keeps a (b.setCell ⟨g, j, none⟩ u) :=
  ⟨Nat.le_trans h.size (by simp [World.setCell]), fun i cs' t' ht' hc => by
    have h1 := h.keep i cs' t' ht' hc
    refine blk_far h1 (p := ⟨g, j, none⟩) (blk_ne h1 hg ?_) u
    rcases ht' with rfl | rfl
    · exact fun e => ht.1 e.symm
    · exact fun e => ht.2 e.symm⟩

mutual
def pre : S26 → List S26
  | ⟨a, b, l, c, d, e, f⟩ => ⟨a, b, l, c, d, e, f⟩ :: preL l
def preL : List S26 → List S26
  | [] => []
  | x :: r => pre x ++ preL r
end
theorem pre_eq (x : S26) : pre x = x :: preL x.f2 := by cases x; simp [pre]
theorem preL_append (a b : List S26) : preL (a ++ b) = preL a ++ preL b := by
  induction a with
  | nil => simp [preL]
  | cons x r ih => simp [preL, ih, List.append_assoc]
theorem preL_take (l : List S26) (k : Nat) (h : k < l.length) : preL (l.take (k + 1)) = preL (l.take k) ++ pre l[k] := by
  rw [List.take_succ_eq_append_getElem h, preL_append]; simp [preL]
theorem pre_lt (x : S26) (k : Nat) (h : k < x.f2.length) : (pre x.f2[k]).length < (pre x).length := by
  rw [pre_eq x]
  have h1 := preL_take x.f2 k h
  have h2 : (preL (x.f2.take (k + 1))).length ≤ (preL x.f2).length := by
    have : preL x.f2 = preL (x.f2.take (k + 1)) ++ preL (x.f2.drop (k + 1)) := by rw [← preL_append, List.take_append_drop]
    rw [this, List.length_append]; omega
  rw [h1, List.length_append] at h2
  simp only [List.length_cons]; omega
theorem pre_one (done : List S26) (x : S26) : done ++ [x] <+: done ++ pre x := by
  rw [pre_eq]
  exact ⟨preL x.f2, by simp⟩
theorem pre_part (done : List S26) (x : S26) (i : Nat) (h : i < x.f2.length) : done ++ [x] ++ preL (x.f2.take i) ++ pre x.f2[i] <+: done ++ pre x := by
  have h1 : preL x.f2 = preL (x.f2.take (i + 1)) ++ preL (x.f2.drop (i + 1)) := by rw [← preL_append, List.take_append_drop]
  rw [pre_eq x, h1, preL_take x.f2 i h]
  exact ⟨preL (x.f2.drop (i + 1)), by simp [List.append_assoc]⟩
theorem rd26 (l : List S26) (k : Nat) (h : k < l.length) : rd_T26 l (k : Int) = l[k] := by simp [rd_T26, List.getD_eq_getElem?_getD, h]


set_option maxHeartbeats 2000000 in
set_option maxRecDepth 100000 in
theorem walk47 (I : List S26 → World → Prop) (g : Nat) (w0 : World) (T : List S26)
    (hcl : ∀ (done : List S26) (x : S26) (A2 : Option Addr) (c2 : Nat) (A5 : Option Addr) (c5 : Nat) (A6 : Option Addr) (c6 : Nat) (w : World), (done ++ [x]) <+: T → Below w0.heap.size w0 w → I done w →
      Calls Try.prog 47 #[.agg #[.int .i64 x.f0, .string x.f1, .slice A2 x.f2.length c2, .bool x.f3, .bool x.f4, .slice A5 x.f5.length c5, .slice A6 x.f6.length c6], .pointer (some ⟨g, 0, none⟩)] w
        fun e w' => e = .returned (.tuple #[]) ∧ Below w0.heap.size w0 w' ∧ Keeps w w' ∧ I (done ++ [x]) w')
    (hal : ∀ (done : List S26) (w : World) (o : Obj), I done w → I done (w.alloc o)) (k : Nat) :
    ∀ (done : List S26) (x : S26) (A2 : Option Addr) (c2 : Nat) (A5 : Option Addr) (c5 : Nat) (A6 : Option Addr) (c6 : Nat) (w : World)
    (hk : (pre x).length ≤ k) (hp : done ++ pre x <+: T) (h2 : Kd.C k26 w0 A2 x.f2.length x.f2) (hb : Below w0.heap.size w0 w) (hI : I done w),
    Calls Try.prog 41 #[.agg #[.int .i64 x.f0, .string x.f1, .slice A2 x.f2.length c2, .bool x.f3, .bool x.f4, .slice A5 x.f5.length c5, .slice A6 x.f6.length c6], .func (.func 47) #[] #[.pointer (some ⟨g, 0, none⟩)]] w
      fun e w' => e = .returned (.tuple #[]) ∧ Below w0.heap.size w0 w' ∧ Keeps w w' ∧ I (done ++ pre x) w' := by
  induction k using Nat.strongRecOn with
  | _ k ih =>
  intro done x A2 c2 A5 c5 A6 c6 w hk hp h2 hb hI
  have hu26 := Try.underlying26
  have HCL := Aside0.mk hcl
  have HAL := Aside0.mk hal
  have IH := Aside0.mk ih
  have HK := Aside0.mk hk
  have HPT := Aside0.mk hp
  have H2 := Aside0.mk h2
  have HI := Aside0.mk (hal _ _ (.cells #[.int .i64 x.f0, .string x.f1, .slice A2 x.f2.length c2, .bool x.f3, .bool x.f4, .slice A5 x.f5.length c5, .slice A6 x.f6.length c6] 26) hI)
  have HB := Aside0.mk (hb.alloc hb.size (.cells #[.int .i64 x.f0, .string x.f1, .slice A2 x.f2.length c2, .bool x.f3, .bool x.f4, .slice A5 x.f5.length c5, .slice A6 x.f6.length c6] 26))
  have HBK := Aside0.mk (blk_new w (.cells #[.int .i64 x.f0, .string x.f1, .slice A2 x.f2.length c2, .bool x.f3, .bool x.f4, .slice A5 x.f5.length c5, .slice A6 x.f6.length c6] 26))
  have HKP := Aside0.mk ((Keeps.refl w).alloc (.cells #[.int .i64 x.f0, .string x.f1, .slice A2 x.f2.length c2, .bool x.f3, .bool x.f4, .slice A5 x.f5.length c5, .slice A6 x.f6.length c6] 26))
  have HLEN := Aside0.mk h2.2.1
  clear hcl hal ih hk h2 hb hI hp
  go_enter Try.func41, Try.ntmps41
  go_wp2_with fail
  refine (HCL.out done x A2 c2 A5 c5 A6 c6 _ (List.IsPrefix.trans (pre_one done x) HPT.out) HB.out HI.out).mono ?_
  rintro e w1 ⟨rfl, hb1, hk1, hi1⟩
  have HBK1 := Aside0.mk (hk1.keep _ _ _ (.inl rfl) HBK.out)
  have HKP1 := Aside0.mk (HKP.out.trans hk1)
  have HB1 := Aside0.mk hb1
  have HI1 := Aside0.mk hi1
  clear hb1 hk1 hi1 HBK HKP HB HI
  obtain ⟨gb, hgb⟩ : ∃ gb, gb = w.heap.size := ⟨_, rfl⟩
  rw [← hgb] at HBK1
  rw [← hgb]
  clear hgb
  have hcz0 : w1.cell? ⟨gb, 2, none⟩ = some (.slice A2 x.f2.length c2) := (blk_cell HBK1.out 2).trans rfl
  go_wp2_with fail
  clear hcz0
  have hm : x.f2.length ≤ 9223372036854775807 := HLEN.out
  go_loopg [5, 12] x.f2.length (fun k' v5 v12 wr => ∃ i : Nat, v12 = .int .i64 i ∧ i ≤ x.f2.length ∧ k' + i = x.f2.length ∧ Aside0 (wr.heap[gb]? = some (.cells #[.int .i64 x.f0, .string x.f1, .slice A2 x.f2.length c2, .bool x.f3, .bool x.f4, .slice A5 x.f5.length c5, .slice A6 x.f6.length c6] 26 (0, 0))) ∧ Aside0 (Below w0.heap.size w0 wr) ∧ Aside0 (Keeps w wr) ∧ Aside0 (I (done ++ [x] ++ preL (x.f2.take i)) wr))
  case atStart => exact ⟨0, rfl, Nat.zero_le _, rfl, HBK1, HB1, HKP1, ⟨by simpa [preL] using HI1.out⟩⟩
  case round =>
    clear HBK1 HB1 HKP1 HI1
    obtain ⟨i, rfl, hi, hki, HBK, HB, HKP, HI⟩ := hrel
    have HKI := Aside0.mk hki
    clear hki
    by_cases hlt : i < x.f2.length
    · obtain ⟨ad, B2, d2, B5, d5, B6, d6, e0, q0, q1, q2, q3, q4, q5, q6, l2, g2, l5, g5, l6, g6⟩ := at_T26 H2.out (i : Int) (by omega) (by omega)
      cases e0
      rw [rd26 _ _ hlt] at q0 q1 q2 q3 q4 q5 q6 l2 g2 l5 g5 l6 g6
      simp only [Int.toNat_natCast] at q0 q1 q2 q3 q4 q5 q6
      have hb := HB.out
      replace q0 := (hb.cell (World.block_lt_of_cell? _ _ q0)).trans q0
      replace q1 := (hb.cell (World.block_lt_of_cell? _ _ q1)).trans q1
      replace q2 := (hb.cell (World.block_lt_of_cell? _ _ q2)).trans q2
      replace q3 := (hb.cell (World.block_lt_of_cell? _ _ q3)).trans q3
      replace q4 := (hb.cell (World.block_lt_of_cell? _ _ q4)).trans q4
      replace q5 := (hb.cell (World.block_lt_of_cell? _ _ q5)).trans q5
      replace q6 := (hb.cell (World.block_lt_of_cell? _ _ q6)).trans q6
      have G2 := Aside0.mk g2
      have L2 := Aside0.mk l2
      clear hb g2 l2 g5 l5 g6 l6
      have HP := Aside0.mk (pre_lt x i hlt)
      have HT := Aside0.mk (preL_take x.f2 i hlt)
      have HPR := Aside0.mk (List.IsPrefix.trans (pre_part done x i hlt) HPT.out)
      obtain ⟨y, hy⟩ : ∃ y, y = x.f2[i] := ⟨_, rfl⟩
      rw [← hy] at q0 q1 q2 q3 q4 q5 q6 G2 L2 HP HT HPR
      clear hy
      go_wp2_with fail
      refine (IH.out (pre y).length (by have := HP.out; have := HK.out; omega) (done ++ [x] ++ preL (x.f2.take i)) y B2 d2 B5 d5 B6 d6 _ (Nat.le_refl _) HPR.out G2.out (HB.out.alloc HB.out.size _) (HAL.out _ _ _ HI.out)).mono ?_
      rintro e w2 ⟨rfl, hb2, hk2, hi2⟩
      have N1 := Aside0.mk (hk2.keep _ _ _ (.inl rfl) (blk_alloc HBK.out _))
      have N2 := Aside0.mk ((HKP.out.alloc _).trans hk2)
      have N3 := Aside0.mk hb2
      have N4 := Aside0.mk hi2
      clear hb2 hk2 hi2 HBK HKP HB HI q0 q1 q2 q3 q4 q5 q6
      go_wp2_with fail
      go_roundg (gk - 1)
      case measure => have := HKI.out; omega
      case rel => exact ⟨i + 1, by go_num, by omega, by have := HKI.out; omega, N1, N3, N2, ⟨by rw [HT.out]; simpa [List.append_assoc] using N4.out⟩⟩
    · go_wp2_with fail
      go_end0
      refine ⟨rfl, HB.out, HKP.out, ?_⟩
      have hI := HI.out
      rw [show i = x.f2.length by omega, List.take_length] at hI
      rw [pre_eq]
      simpa [List.append_assoc] using hI

set_option maxHeartbeats 2000000 in
set_option maxRecDepth 100000 in
theorem walk42 (I : List S26 → World → Prop) (g : Nat) (w0 : World) (T : List S26)
    (hcl : ∀ (done : List S26) (x : S26) (A2 : Option Addr) (c2 : Nat) (A5 : Option Addr) (c5 : Nat) (A6 : Option Addr) (c6 : Nat) (w : World), (done ++ [x]) <+: T → Below w0.heap.size w0 w → I done w →
      Calls Try.prog 42 #[.agg #[.int .i64 x.f0, .string x.f1, .slice A2 x.f2.length c2, .bool x.f3, .bool x.f4, .slice A5 x.f5.length c5, .slice A6 x.f6.length c6], .pointer (some ⟨g, 0, none⟩)] w
        fun e w' => e = .returned (.tuple #[]) ∧ Below w0.heap.size w0 w' ∧ Keeps w w' ∧ I (done ++ [x]) w')
    (hal : ∀ (done : List S26) (w : World) (o : Obj), I done w → I done (w.alloc o)) (k : Nat) :
    ∀ (done : List S26) (x : S26) (A2 : Option Addr) (c2 : Nat) (A5 : Option Addr) (c5 : Nat) (A6 : Option Addr) (c6 : Nat) (w : World)
    (hk : (pre x).length ≤ k) (hp : done ++ pre x <+: T) (h2 : Kd.C k26 w0 A2 x.f2.length x.f2) (hb : Below w0.heap.size w0 w) (hI : I done w),
    Calls Try.prog 41 #[.agg #[.int .i64 x.f0, .string x.f1, .slice A2 x.f2.length c2, .bool x.f3, .bool x.f4, .slice A5 x.f5.length c5, .slice A6 x.f6.length c6], .func (.func 42) #[] #[.pointer (some ⟨g, 0, none⟩)]] w
      fun e w' => e = .returned (.tuple #[]) ∧ Below w0.heap.size w0 w' ∧ Keeps w w' ∧ I (done ++ pre x) w' := by
  induction k using Nat.strongRecOn with
  | _ k ih =>
  intro done x A2 c2 A5 c5 A6 c6 w hk hp h2 hb hI
  have hu26 := Try.underlying26
  have HCL := Aside0.mk hcl
  have HAL := Aside0.mk hal
  have IH := Aside0.mk ih
  have HK := Aside0.mk hk
  have HPT := Aside0.mk hp
  have H2 := Aside0.mk h2
  have HI := Aside0.mk (hal _ _ (.cells #[.int .i64 x.f0, .string x.f1, .slice A2 x.f2.length c2, .bool x.f3, .bool x.f4, .slice A5 x.f5.length c5, .slice A6 x.f6.length c6] 26) hI)
  have HB := Aside0.mk (hb.alloc hb.size (.cells #[.int .i64 x.f0, .string x.f1, .slice A2 x.f2.length c2, .bool x.f3, .bool x.f4, .slice A5 x.f5.length c5, .slice A6 x.f6.length c6] 26))
  have HBK := Aside0.mk (blk_new w (.cells #[.int .i64 x.f0, .string x.f1, .slice A2 x.f2.length c2, .bool x.f3, .bool x.f4, .slice A5 x.f5.length c5, .slice A6 x.f6.length c6] 26))
  have HKP := Aside0.mk ((Keeps.refl w).alloc (.cells #[.int .i64 x.f0, .string x.f1, .slice A2 x.f2.length c2, .bool x.f3, .bool x.f4, .slice A5 x.f5.length c5, .slice A6 x.f6.length c6] 26))
  have HLEN := Aside0.mk h2.2.1
  clear hcl hal ih hk h2 hb hI hp
  go_enter Try.func41, Try.ntmps41
  go_wp2_with fail
  refine (HCL.out done x A2 c2 A5 c5 A6 c6 _ (List.IsPrefix.trans (pre_one done x) HPT.out) HB.out HI.out).mono ?_
  rintro e w1 ⟨rfl, hb1, hk1, hi1⟩
  have HBK1 := Aside0.mk (hk1.keep _ _ _ (.inl rfl) HBK.out)
  have HKP1 := Aside0.mk (HKP.out.trans hk1)
  have HB1 := Aside0.mk hb1
  have HI1 := Aside0.mk hi1
  clear hb1 hk1 hi1 HBK HKP HB HI
  obtain ⟨gb, hgb⟩ : ∃ gb, gb = w.heap.size := ⟨_, rfl⟩
  rw [← hgb] at HBK1
  rw [← hgb]
  clear hgb
  have hcz0 : w1.cell? ⟨gb, 2, none⟩ = some (.slice A2 x.f2.length c2) := (blk_cell HBK1.out 2).trans rfl
  go_wp2_with fail
  clear hcz0
  have hm : x.f2.length ≤ 9223372036854775807 := HLEN.out
  go_loopg [5, 12] x.f2.length (fun k' v5 v12 wr => ∃ i : Nat, v12 = .int .i64 i ∧ i ≤ x.f2.length ∧ k' + i = x.f2.length ∧ Aside0 (wr.heap[gb]? = some (.cells #[.int .i64 x.f0, .string x.f1, .slice A2 x.f2.length c2, .bool x.f3, .bool x.f4, .slice A5 x.f5.length c5, .slice A6 x.f6.length c6] 26 (0, 0))) ∧ Aside0 (Below w0.heap.size w0 wr) ∧ Aside0 (Keeps w wr) ∧ Aside0 (I (done ++ [x] ++ preL (x.f2.take i)) wr))
  case atStart => exact ⟨0, rfl, Nat.zero_le _, rfl, HBK1, HB1, HKP1, ⟨by simpa [preL] using HI1.out⟩⟩
  case round =>
    clear HBK1 HB1 HKP1 HI1
    obtain ⟨i, rfl, hi, hki, HBK, HB, HKP, HI⟩ := hrel
    have HKI := Aside0.mk hki
    clear hki
    by_cases hlt : i < x.f2.length
    · obtain ⟨ad, B2, d2, B5, d5, B6, d6, e0, q0, q1, q2, q3, q4, q5, q6, l2, g2, l5, g5, l6, g6⟩ := at_T26 H2.out (i : Int) (by omega) (by omega)
      cases e0
      rw [rd26 _ _ hlt] at q0 q1 q2 q3 q4 q5 q6 l2 g2 l5 g5 l6 g6
      simp only [Int.toNat_natCast] at q0 q1 q2 q3 q4 q5 q6
      have hb := HB.out
      replace q0 := (hb.cell (World.block_lt_of_cell? _ _ q0)).trans q0
      replace q1 := (hb.cell (World.block_lt_of_cell? _ _ q1)).trans q1
      replace q2 := (hb.cell (World.block_lt_of_cell? _ _ q2)).trans q2
      replace q3 := (hb.cell (World.block_lt_of_cell? _ _ q3)).trans q3
      replace q4 := (hb.cell (World.block_lt_of_cell? _ _ q4)).trans q4
      replace q5 := (hb.cell (World.block_lt_of_cell? _ _ q5)).trans q5
      replace q6 := (hb.cell (World.block_lt_of_cell? _ _ q6)).trans q6
      have G2 := Aside0.mk g2
      have L2 := Aside0.mk l2
      clear hb g2 l2 g5 l5 g6 l6
      have HP := Aside0.mk (pre_lt x i hlt)
      have HT := Aside0.mk (preL_take x.f2 i hlt)
      have HPR := Aside0.mk (List.IsPrefix.trans (pre_part done x i hlt) HPT.out)
      obtain ⟨y, hy⟩ : ∃ y, y = x.f2[i] := ⟨_, rfl⟩
      rw [← hy] at q0 q1 q2 q3 q4 q5 q6 G2 L2 HP HT HPR
      clear hy
      go_wp2_with fail
      refine (IH.out (pre y).length (by have := HP.out; have := HK.out; omega) (done ++ [x] ++ preL (x.f2.take i)) y B2 d2 B5 d5 B6 d6 _ (Nat.le_refl _) HPR.out G2.out (HB.out.alloc HB.out.size _) (HAL.out _ _ _ HI.out)).mono ?_
      rintro e w2 ⟨rfl, hb2, hk2, hi2⟩
      have N1 := Aside0.mk (hk2.keep _ _ _ (.inl rfl) (blk_alloc HBK.out _))
      have N2 := Aside0.mk ((HKP.out.alloc _).trans hk2)
      have N3 := Aside0.mk hb2
      have N4 := Aside0.mk hi2
      clear hb2 hk2 hi2 HBK HKP HB HI q0 q1 q2 q3 q4 q5 q6
      go_wp2_with fail
      go_roundg (gk - 1)
      case measure => have := HKI.out; omega
      case rel => exact ⟨i + 1, by go_num, by omega, by have := HKI.out; omega, N1, N3, N2, ⟨by rw [HT.out]; simpa [List.append_assoc] using N4.out⟩⟩
    · go_wp2_with fail
      go_end0
      refine ⟨rfl, HB.out, HKP.out, ?_⟩
      have hI := HI.out
      rw [show i = x.f2.length by omega, List.take_length] at hI
      rw [pre_eq]
      simpa [List.append_assoc] using hI

set_option maxHeartbeats 2000000 in
set_option maxRecDepth 100000 in
theorem walk48 (I : List S26 → World → Prop) (g : Nat) (w0 : World) (T : List S26)
    (hcl : ∀ (done : List S26) (x : S26) (A2 : Option Addr) (c2 : Nat) (A5 : Option Addr) (c5 : Nat) (A6 : Option Addr) (c6 : Nat) (w : World), (done ++ [x]) <+: T → Below w0.heap.size w0 w → I done w →
      Calls Try.prog 48 #[.agg #[.int .i64 x.f0, .string x.f1, .slice A2 x.f2.length c2, .bool x.f3, .bool x.f4, .slice A5 x.f5.length c5, .slice A6 x.f6.length c6], .pointer (some ⟨g, 0, none⟩)] w
        fun e w' => e = .returned (.tuple #[]) ∧ Below w0.heap.size w0 w' ∧ Keeps w w' ∧ I (done ++ [x]) w')
    (hal : ∀ (done : List S26) (w : World) (o : Obj), I done w → I done (w.alloc o)) (k : Nat) :
    ∀ (done : List S26) (x : S26) (A2 : Option Addr) (c2 : Nat) (A5 : Option Addr) (c5 : Nat) (A6 : Option Addr) (c6 : Nat) (w : World)
    (hk : (pre x).length ≤ k) (hp : done ++ pre x <+: T) (h2 : Kd.C k26 w0 A2 x.f2.length x.f2) (hb : Below w0.heap.size w0 w) (hI : I done w),
    Calls Try.prog 41 #[.agg #[.int .i64 x.f0, .string x.f1, .slice A2 x.f2.length c2, .bool x.f3, .bool x.f4, .slice A5 x.f5.length c5, .slice A6 x.f6.length c6], .func (.func 48) #[] #[.pointer (some ⟨g, 0, none⟩)]] w
      fun e w' => e = .returned (.tuple #[]) ∧ Below w0.heap.size w0 w' ∧ Keeps w w' ∧ I (done ++ pre x) w' := by
  induction k using Nat.strongRecOn with
  | _ k ih =>
  intro done x A2 c2 A5 c5 A6 c6 w hk hp h2 hb hI
  have hu26 := Try.underlying26
  have HCL := Aside0.mk hcl
  have HAL := Aside0.mk hal
  have IH := Aside0.mk ih
  have HK := Aside0.mk hk
  have HPT := Aside0.mk hp
  have H2 := Aside0.mk h2
  have HI := Aside0.mk (hal _ _ (.cells #[.int .i64 x.f0, .string x.f1, .slice A2 x.f2.length c2, .bool x.f3, .bool x.f4, .slice A5 x.f5.length c5, .slice A6 x.f6.length c6] 26) hI)
  have HB := Aside0.mk (hb.alloc hb.size (.cells #[.int .i64 x.f0, .string x.f1, .slice A2 x.f2.length c2, .bool x.f3, .bool x.f4, .slice A5 x.f5.length c5, .slice A6 x.f6.length c6] 26))
  have HBK := Aside0.mk (blk_new w (.cells #[.int .i64 x.f0, .string x.f1, .slice A2 x.f2.length c2, .bool x.f3, .bool x.f4, .slice A5 x.f5.length c5, .slice A6 x.f6.length c6] 26))
  have HKP := Aside0.mk ((Keeps.refl w).alloc (.cells #[.int .i64 x.f0, .string x.f1, .slice A2 x.f2.length c2, .bool x.f3, .bool x.f4, .slice A5 x.f5.length c5, .slice A6 x.f6.length c6] 26))
  have HLEN := Aside0.mk h2.2.1
  clear hcl hal ih hk h2 hb hI hp
  go_enter Try.func41, Try.ntmps41
  go_wp2_with fail
  refine (HCL.out done x A2 c2 A5 c5 A6 c6 _ (List.IsPrefix.trans (pre_one done x) HPT.out) HB.out HI.out).mono ?_
  rintro e w1 ⟨rfl, hb1, hk1, hi1⟩
  have HBK1 := Aside0.mk (hk1.keep _ _ _ (.inl rfl) HBK.out)
  have HKP1 := Aside0.mk (HKP.out.trans hk1)
  have HB1 := Aside0.mk hb1
  have HI1 := Aside0.mk hi1
  clear hb1 hk1 hi1 HBK HKP HB HI
  obtain ⟨gb, hgb⟩ : ∃ gb, gb = w.heap.size := ⟨_, rfl⟩
  rw [← hgb] at HBK1
  rw [← hgb]
  clear hgb
  have hcz0 : w1.cell? ⟨gb, 2, none⟩ = some (.slice A2 x.f2.length c2) := (blk_cell HBK1.out 2).trans rfl
  go_wp2_with fail
  clear hcz0
  have hm : x.f2.length ≤ 9223372036854775807 := HLEN.out
  go_loopg [5, 12] x.f2.length (fun k' v5 v12 wr => ∃ i : Nat, v12 = .int .i64 i ∧ i ≤ x.f2.length ∧ k' + i = x.f2.length ∧ Aside0 (wr.heap[gb]? = some (.cells #[.int .i64 x.f0, .string x.f1, .slice A2 x.f2.length c2, .bool x.f3, .bool x.f4, .slice A5 x.f5.length c5, .slice A6 x.f6.length c6] 26 (0, 0))) ∧ Aside0 (Below w0.heap.size w0 wr) ∧ Aside0 (Keeps w wr) ∧ Aside0 (I (done ++ [x] ++ preL (x.f2.take i)) wr))
  case atStart => exact ⟨0, rfl, Nat.zero_le _, rfl, HBK1, HB1, HKP1, ⟨by simpa [preL] using HI1.out⟩⟩
  case round =>
    clear HBK1 HB1 HKP1 HI1
    obtain ⟨i, rfl, hi, hki, HBK, HB, HKP, HI⟩ := hrel
    have HKI := Aside0.mk hki
    clear hki
    by_cases hlt : i < x.f2.length
    · obtain ⟨ad, B2, d2, B5, d5, B6, d6, e0, q0, q1, q2, q3, q4, q5, q6, l2, g2, l5, g5, l6, g6⟩ := at_T26 H2.out (i : Int) (by omega) (by omega)
      cases e0
      rw [rd26 _ _ hlt] at q0 q1 q2 q3 q4 q5 q6 l2 g2 l5 g5 l6 g6
      simp only [Int.toNat_natCast] at q0 q1 q2 q3 q4 q5 q6
      have hb := HB.out
      replace q0 := (hb.cell (World.block_lt_of_cell? _ _ q0)).trans q0
      replace q1 := (hb.cell (World.block_lt_of_cell? _ _ q1)).trans q1
      replace q2 := (hb.cell (World.block_lt_of_cell? _ _ q2)).trans q2
      replace q3 := (hb.cell (World.block_lt_of_cell? _ _ q3)).trans q3
      replace q4 := (hb.cell (World.block_lt_of_cell? _ _ q4)).trans q4
      replace q5 := (hb.cell (World.block_lt_of_cell? _ _ q5)).trans q5
      replace q6 := (hb.cell (World.block_lt_of_cell? _ _ q6)).trans q6
      have G2 := Aside0.mk g2
      have L2 := Aside0.mk l2
      clear hb g2 l2 g5 l5 g6 l6
      have HP := Aside0.mk (pre_lt x i hlt)
      have HT := Aside0.mk (preL_take x.f2 i hlt)
      have HPR := Aside0.mk (List.IsPrefix.trans (pre_part done x i hlt) HPT.out)
      obtain ⟨y, hy⟩ : ∃ y, y = x.f2[i] := ⟨_, rfl⟩
      rw [← hy] at q0 q1 q2 q3 q4 q5 q6 G2 L2 HP HT HPR
      clear hy
      go_wp2_with fail
      refine (IH.out (pre y).length (by have := HP.out; have := HK.out; omega) (done ++ [x] ++ preL (x.f2.take i)) y B2 d2 B5 d5 B6 d6 _ (Nat.le_refl _) HPR.out G2.out (HB.out.alloc HB.out.size _) (HAL.out _ _ _ HI.out)).mono ?_
      rintro e w2 ⟨rfl, hb2, hk2, hi2⟩
      have N1 := Aside0.mk (hk2.keep _ _ _ (.inl rfl) (blk_alloc HBK.out _))
      have N2 := Aside0.mk ((HKP.out.alloc _).trans hk2)
      have N3 := Aside0.mk hb2
      have N4 := Aside0.mk hi2
      clear hb2 hk2 hi2 HBK HKP HB HI q0 q1 q2 q3 q4 q5 q6
      go_wp2_with fail
      go_roundg (gk - 1)
      case measure => have := HKI.out; omega
      case rel => exact ⟨i + 1, by go_num, by omega, by have := HKI.out; omega, N1, N3, N2, ⟨by rw [HT.out]; simpa [List.append_assoc] using N4.out⟩⟩
    · go_wp2_with fail
      go_end0
      refine ⟨rfl, HB.out, HKP.out, ?_⟩
      have hI := HI.out
      rw [show i = x.f2.length by omega, List.take_length] at hI
      rw [pre_eq]
      simpa [List.append_assoc] using hI
end Go.Proofs.Ytjlnlonioknkhaa.PA

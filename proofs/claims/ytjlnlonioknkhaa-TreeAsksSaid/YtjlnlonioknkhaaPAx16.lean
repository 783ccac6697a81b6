/- Printed by this session's driver of the kit's printer (stubbed functions are proved by hand). Lean checks it. -/
import Derived.Test.YtjlnlonioknkhaaPAx0
import Derived.Test.YtjlnlonioknkhaaPAx4
import Derived.Test.YtjlnlonioknkhaaPAx6
import Derived.Test.YtjlnlonioknkhaaPAx8
import Derived.Test.YtjlnlonioknkhaaPAx9
import Derived.Test.YtjlnlonioknkhaaPAx10
import Derived.Test.YtjlnlonioknkhaaPAx11
import Derived.Test.YtjlnlonioknkhaaPAx12
import Derived.Test.YtjlnlonioknkhaaPAx14
import Derived.Test.YtjlnlonioknkhaaPAx15
namespace Go.Proofs.Ytjlnlonioknkhaa.PA
open Go.RowKit Go.Proofs.YtjlnlonioknkhaaW.PrintWords Go.Proofs.YtjlnlonioknkhaaW.PrintLast Go.Proofs.YtjlnlonioknkhaaW.PrintMore
attribute [local go_sem] max2_int min2_int max_two min_two max_three min_three max_four min_four   -- for this text's walks alone
set_option linter.unusedVariables false
set_option linter.unusedSimpArgs false

/-! ### galleylaw10_TreeAsks: function 4 -/
def galleylaw10_TreeAsks.j0 : Nat → Bool → Int → ByteArray → List (S26) → Bool → Bool → List ByteArray → List ByteArray → Int → ByteArray → List (S26) → Bool → Bool → List ByteArray → List ByteArray → Option (Bool)
  | 0, _, _, _, _, _, _, _, _, _, _, _, _, _, _, _ => none
  | k + 1, x12, x243000, x243001, x243002, x243003, x243004, x243005, x243006, x244000, x244001, x244002, x244003, x244004, x244005, x244006 => if x12 = true then ((galleylaw10_told.f).bind fun t246 => (some t246)) else ((galleylaw10_told.f).bind fun t247 => (if t247 = true then ((tree_Same.f x243000 x243001 x243002 x243003 x243004 x243005 x243006 x244000 x244001 x244002 x244003 x244004 x244005 x244006).bind fun t248 => ((galleyref9_Same.f k x243000 x243001 x243002 x243003 x243004 x243005 x243006 x244000 x244001 x244002 x244003 x244004 x244005 x244006).bind fun t249 => (if (t248 == t249) = true then ((tree_Like.f x243000 x243001 x243002 x243003 x243004 x243005 x243006 x244000 x244001 x244002 x244003 x244004 x244005 x244006).bind fun t250 => ((galleyref9_Like.f k x243000 x243001 x243002 x243003 x243004 x243005 x243006 x244000 x244001 x244002 x244003 x244004 x244005 x244006).bind fun t251 => (if (t250 == t251) = true then ((tree_Count.f x243000 x243001 x243002 x243003 x243004 x243005 x243006).bind fun t252 => ((galleyref9_Count.f k x243000 x243001 x243002 x243003 x243004 x243005 x243006).bind fun t253 => (if t252 = t253 then ((tree_Notes.f k x243000 x243001 x243002 x243003 x243004 x243005 x243006).bind fun t254 => ((galleyref9_Notes.f k x243000 x243001 x243002 x243003 x243004 x243005 x243006).bind fun t257 => ((galleylaw10_texts.f k t254 t257).bind fun t260 => (if t260 = true then ((tree_Lits.f x243000 x243001 x243002 x243003 x243004 x243005 x243006).bind fun t261 => ((galleyref9_Lits.f k x243000 x243001 x243002 x243003 x243004 x243005 x243006).bind fun t264 => ((galleylaw10_texts.f k t261 t264).bind fun t267 => (if t267 = true then ((tree_Forced.f x243000 x243001 x243002 x243003 x243004 x243005 x243006).bind fun t268 => ((galleyref9_Forced.f k x243000 x243001 x243002 x243003 x243004 x243005 x243006).bind fun t269 => (some (t268 == t269)))) else (some false))))) else (some false))))) else (some false)))) else (some false)))) else (some false)))) else (some false)))
def galleylaw10_TreeAsks.f (k : Nat) (a0_0 : Int) (a0_1 : ByteArray) (l0_2 : List (S26)) (a0_3 : Bool) (a0_4 : Bool) (l0_5 : List ByteArray) (l0_6 : List ByteArray) (a1_0 : Int) (a1_1 : ByteArray) (l1_2 : List (S26)) (a1_3 : Bool) (a1_4 : Bool) (l1_5 : List ByteArray) (l1_6 : List ByteArray) : Option (Bool) := (galleylaw10_Few.f k a0_0 a0_1 l0_2 a0_3 a0_4 l0_5 l0_6).bind fun t244 => (if t244 = true then ((galleylaw10_Few.f k a1_0 a1_1 l1_2 a1_3 a1_4 l1_5 l1_6).bind fun t245 => (galleylaw10_TreeAsks.j0 k (!t245) a0_0 a0_1 l0_2 a0_3 a0_4 l0_5 l0_6 a1_0 a1_1 l1_2 a1_3 a1_4 l1_5 l1_6)) else (galleylaw10_TreeAsks.j0 k true a0_0 a0_1 l0_2 a0_3 a0_4 l0_5 l0_6 a1_0 a1_1 l1_2 a1_3 a1_4 l1_5 l1_6))
theorem galleylaw10_TreeAsks.mono_l : ∀ k, (∀ y0 y1 y2 y3 y4 y5 y6 y7 y8 y9 y10 y11 y12 y13 y14, LeO (galleylaw10_TreeAsks.j0 k y0 y1 y2 y3 y4 y5 y6 y7 y8 y9 y10 y11 y12 y13 y14) (galleylaw10_TreeAsks.j0 (k + 1) y0 y1 y2 y3 y4 y5 y6 y7 y8 y9 y10 y11 y12 y13 y14))
  | 0 => fun _ _ _ _ _ _ _ _ _ _ _ _ _ _ _ r h => by simp [galleylaw10_TreeAsks.j0] at h
  | k + 1 => by
    have ih0 := galleylaw10_TreeAsks.mono_l k
    · intro y0 y1 y2 y3 y4 y5 y6 y7 y8 y9 y10 y11 y12 y13 y14
      unfold galleylaw10_TreeAsks.j0
      repeat' first
      | (with_reducible exact ih0 _ _ _ _ _ _ _ _ _ _ _ _ _ _ _)
      | (with_reducible exact galleylaw10_Few.mono _ _ _ _ _ _ _ _)
      | (with_reducible exact galleylaw10_texts.mono _ _ _)
      | (with_reducible exact galleyref9_Count.mono _ _ _ _ _ _ _ _)
      | (with_reducible exact galleyref9_Forced.mono _ _ _ _ _ _ _ _)
      | (with_reducible exact galleyref9_Like.mono _ _ _ _ _ _ _ _ _ _ _ _ _ _ _)
      | (with_reducible exact galleyref9_Lits.mono _ _ _ _ _ _ _ _)
      | (with_reducible exact galleyref9_Notes.mono _ _ _ _ _ _ _ _)
      | (with_reducible exact galleyref9_Same.mono _ _ _ _ _ _ _ _ _ _ _ _ _ _ _)
      | (with_reducible exact tree_Notes.mono _ _ _ _ _ _ _ _)
      | (with_reducible exact LeO.refl _)
      | (with_reducible exact LeO.none _)
      | (with_reducible refine LeO.ite ?_ ?_)
      | (with_reducible refine LeO.bind ?_ (fun _ => ?_))
      | exact ih0 _ _ _ _ _ _ _ _ _ _ _ _ _ _ _
      | exact galleylaw10_Few.mono _ _ _ _ _ _ _ _
      | exact galleylaw10_texts.mono _ _ _
      | exact galleyref9_Count.mono _ _ _ _ _ _ _ _
      | exact galleyref9_Forced.mono _ _ _ _ _ _ _ _
      | exact galleyref9_Like.mono _ _ _ _ _ _ _ _ _ _ _ _ _ _ _
      | exact galleyref9_Lits.mono _ _ _ _ _ _ _ _
      | exact galleyref9_Notes.mono _ _ _ _ _ _ _ _
      | exact galleyref9_Same.mono _ _ _ _ _ _ _ _ _ _ _ _ _ _ _
      | exact tree_Notes.mono _ _ _ _ _ _ _ _
      | exact LeO.none _
      | refine LeO.ite ?_ ?_
      | refine LeO.bind ?_ (fun _ => ?_)
theorem galleylaw10_TreeAsks.mono : ∀ a0 a1 a2 a3 a4 a5 a6 a7 a8 a9 a10 a11 a12 a13 k, LeO (galleylaw10_TreeAsks.f k a0 a1 a2 a3 a4 a5 a6 a7 a8 a9 a10 a11 a12 a13) (galleylaw10_TreeAsks.f (k + 1) a0 a1 a2 a3 a4 a5 a6 a7 a8 a9 a10 a11 a12 a13) := by
  intro a0 a1 a2 a3 a4 a5 a6 a7 a8 a9 a10 a11 a12 a13 k
  have ih0 := galleylaw10_TreeAsks.mono_l k
  unfold galleylaw10_TreeAsks.f
  repeat' first
      | (with_reducible exact ih0 _ _ _ _ _ _ _ _ _ _ _ _ _ _ _)
      | (with_reducible exact galleylaw10_Few.mono _ _ _ _ _ _ _ _)
      | (with_reducible exact galleylaw10_texts.mono _ _ _)
      | (with_reducible exact galleyref9_Count.mono _ _ _ _ _ _ _ _)
      | (with_reducible exact galleyref9_Forced.mono _ _ _ _ _ _ _ _)
      | (with_reducible exact galleyref9_Like.mono _ _ _ _ _ _ _ _ _ _ _ _ _ _ _)
      | (with_reducible exact galleyref9_Lits.mono _ _ _ _ _ _ _ _)
      | (with_reducible exact galleyref9_Notes.mono _ _ _ _ _ _ _ _)
      | (with_reducible exact galleyref9_Same.mono _ _ _ _ _ _ _ _ _ _ _ _ _ _ _)
      | (with_reducible exact tree_Notes.mono _ _ _ _ _ _ _ _)
      | (with_reducible exact LeO.refl _)
      | (with_reducible exact LeO.none _)
      | (with_reducible refine LeO.ite ?_ ?_)
      | (with_reducible refine LeO.bind ?_ (fun _ => ?_))
      | exact ih0 _ _ _ _ _ _ _ _ _ _ _ _ _ _ _
      | exact galleylaw10_Few.mono _ _ _ _ _ _ _ _
      | exact galleylaw10_texts.mono _ _ _
      | exact galleyref9_Count.mono _ _ _ _ _ _ _ _
      | exact galleyref9_Forced.mono _ _ _ _ _ _ _ _
      | exact galleyref9_Like.mono _ _ _ _ _ _ _ _ _ _ _ _ _ _ _
      | exact galleyref9_Lits.mono _ _ _ _ _ _ _ _
      | exact galleyref9_Notes.mono _ _ _ _ _ _ _ _
      | exact galleyref9_Same.mono _ _ _ _ _ _ _ _ _ _ _ _ _ _ _
      | exact tree_Notes.mono _ _ _ _ _ _ _ _
      | exact LeO.none _
      | refine LeO.ite ?_ ?_
      | refine LeO.bind ?_ (fun _ => ?_)
def galleylaw10_TreeAsks.T3 : Bool × List (List Nat × List Nat) := (true, [([], []), ([0, 0], [0]), ([1], [1]), ([1], [1]), ([2, 3, 1, 1], [1, 2, 3]), ([1], [1]), ([1], [1]), ([5, 6, 4, 1], [1, 5, 6]), ([4, 7, 1], [1, 4, 7]), ([1, 8], [1, 8]), ([9, 7], [9]), ([10], [10]), ([10], [10]), ([11, 12, 10, 10], [10, 11, 12]), ([10], [10]), ([10], [10]), ([14, 15, 13, 10], [10, 14, 15]), ([13, 16, 10], [10, 13, 16]), ([10, 17], [10, 17]), ([18, 16], [18]), ([19], [19]), ([20, 19, 19], [19, 20]), ([19], [19]), ([22, 21, 19], [19, 22]), ([21, 23, 19], [19, 21, 23]), ([19, 24], [19, 24]), ([25, 23], [25]), ([26], [26]), ([27, 26, 26], [26, 27]), ([26], [26]), ([29, 28, 26], [26, 29]), ([28, 30, 30, 26], [26, 28, 30]), ([26, 31], [26, 31]), ([32, 31], [32]), ([33], [33]), ([34, 33, 33], [33, 34]), ([33], [33]), ([36, 35, 33], [33, 36]), ([35, 37, 37, 33], [33, 35, 37]), ([33, 38], [33, 38]), ([39, 38], [39]), ([40], [40]), ([41, 40, 40], [40, 41]), ([40], [40]), ([43, 42, 40], [40, 43]), ([42, 44, 40], [40, 42, 44]), ([40, 45], [40, 45]), ([46, 44, 0, 1, 2, 3, 4, 5, 6, 7, 8, 9, 10, 11, 12, 13, 14, 15, 16, 17, 18, 19, 20, 21, 22, 23, 24, 25, 26, 27, 28, 29, 30, 31, 32, 33, 34, 35, 36, 37, 38, 39, 40, 41, 42, 43, 44, 45, 46], [46])])
def galleylaw10_TreeAsks.B3 : List Nat := [0, 1, 3, 3, 15, 3, 3, 127, 255, 511, 1023, 2047, 2047, 8191, 2047, 2047, 65535, 131071, 262143, 524287, 1048575, 2097151, 1048575, 8388607, 16777215, 33554431, 67108863, 134217727, 268435455, 134217727, 1073741823, 2147483647, 4294967295, 8589934591, 17179869183, 34359738367, 17179869183, 137438953471, 274877906943, 549755813887, 1099511627775, 2199023255551, 4398046511103, 2199023255551, 17592186044415, 35184372088831, 70368744177663, 140737488355327]
theorem galleylaw10_TreeAsks.tab3 : rtab .any (opsOf Try.f4 3) = galleylaw10_TreeAsks.T3 := by kernel_rfl
theorem galleylaw10_TreeAsks.bits3 : waitsOk galleylaw10_TreeAsks.T3.2 galleylaw10_TreeAsks.B3 = true := by kernel_rfl
set_option maxHeartbeats 8000000 in
set_option maxRecDepth 100000 in
theorem galleylaw10_TreeAsks.calls (k : Nat) (a0_0 : Int) (a0_1 : ByteArray) (A0_2 : Option Addr) (c0_2 : Nat) (l0_2 : List (S26)) (a0_3 : Bool) (a0_4 : Bool) (A0_5 : Option Addr) (c0_5 : Nat) (l0_5 : List ByteArray) (A0_6 : Option Addr) (c0_6 : Nat) (l0_6 : List ByteArray) (a1_0 : Int) (a1_1 : ByteArray) (A1_2 : Option Addr) (c1_2 : Nat) (l1_2 : List (S26)) (a1_3 : Bool) (a1_4 : Bool) (A1_5 : Option Addr) (c1_5 : Nat) (l1_5 : List ByteArray) (A1_6 : Option Addr) (c1_6 : Nat) (l1_6 : List ByteArray) (r : Bool) (w : World) (hr0_2 : Kd.C k26 w A0_2 l0_2.length l0_2) (hc0_2 : l0_2.length ≤ c0_2) (hr0_5 : Kd.C Kd.string w A0_5 l0_5.length l0_5) (hc0_5 : l0_5.length ≤ c0_5) (hr0_6 : Kd.C Kd.string w A0_6 l0_6.length l0_6) (hc0_6 : l0_6.length ≤ c0_6) (hr1_2 : Kd.C k26 w A1_2 l1_2.length l1_2) (hc1_2 : l1_2.length ≤ c1_2) (hr1_5 : Kd.C Kd.string w A1_5 l1_5.length l1_5) (hc1_5 : l1_5.length ≤ c1_5) (hr1_6 : Kd.C Kd.string w A1_6 l1_6.length l1_6) (hc1_6 : l1_6.length ≤ c1_6) (h : galleylaw10_TreeAsks.f k a0_0 a0_1 l0_2 a0_3 a0_4 l0_5 l0_6 a1_0 a1_1 l1_2 a1_3 a1_4 l1_5 l1_6 = some r) (hT : r = true) :
    Calls Try.prog 4 #[.agg #[.int .i64 a0_0, .string a0_1, .slice A0_2 l0_2.length c0_2, .bool a0_3, .bool a0_4, .slice A0_5 l0_5.length c0_5, .slice A0_6 l0_6.length c0_6], .agg #[.int .i64 a1_0, .string a1_1, .slice A1_2 l1_2.length c1_2, .bool a1_3, .bool a1_4, .slice A1_5 l1_5.length c1_5, .slice A1_6 l1_6.length c1_6]] w fun e w' => e = .returned (.bool r) ∧ Below w.heap.size w w' := by
  have hu26 := Try.underlying26
  have HR0_2 := Aside0.mk hr0_2
  have HC0_2 := Aside0.mk hc0_2
  clear hr0_2 hc0_2
  have HR0_5 := Aside0.mk hr0_5
  have HC0_5 := Aside0.mk hc0_5
  clear hr0_5 hc0_5
  have HR0_6 := Aside0.mk hr0_6
  have HC0_6 := Aside0.mk hc0_6
  clear hr0_6 hc0_6
  have HR1_2 := Aside0.mk hr1_2
  have HC1_2 := Aside0.mk hc1_2
  clear hr1_2 hc1_2
  have HR1_5 := Aside0.mk hr1_5
  have HC1_5 := Aside0.mk hc1_5
  clear hr1_5 hc1_5
  have HR1_6 := Aside0.mk hr1_6
  have HC1_6 := Aside0.mk hc1_6
  clear hr1_6 hc1_6
  have HB := Aside0.mk (Below.refl w.heap.size w)
  have H : ((galleylaw10_Few.f k a0_0 a0_1 l0_2 a0_3 a0_4 l0_5 l0_6).bind fun t244 => (if t244 = true then ((galleylaw10_Few.f k a1_0 a1_1 l1_2 a1_3 a1_4 l1_5 l1_6).bind fun t245 => (galleylaw10_TreeAsks.j0 k (!t245) a0_0 a0_1 l0_2 a0_3 a0_4 l0_5 l0_6 a1_0 a1_1 l1_2 a1_3 a1_4 l1_5 l1_6)) else (galleylaw10_TreeAsks.j0 k true a0_0 a0_1 l0_2 a0_3 a0_4 l0_5 l0_6 a1_0 a1_1 l1_2 a1_3 a1_4 l1_5 l1_6))) = some r := h
  clear h
  have HLAW := Aside0.mk hT
  clear hT
  have HC3 := Aside0.mk H
  clear H
  go_enter Try.func4, Try.ntmps4
  go_upto_region 1 with (first | ((with_reducible refine gate_dst (N := 2) rfl ?_); refine box_event ?hg (N := 2) ?hd (cs := #[.int .i64 a0_0, .string a0_1, .slice A0_2 l0_2.length c0_2, .bool a0_3, .bool a0_4, .slice A0_5 l0_5.length c0_5, .slice A0_6 l0_6.length c0_6]) (t := 26) ?hr ?_; (case hd => rfl); (case hg => rfl); (case hr => first | (go_simp; done) | (go_simp; rfl)); intro gb242 hg w4 hbox hb; have n0_ := Aside0.mk (below_step (by repeat (first | (with_reducible first | exact HB.out | apply below_alloc | apply pw_below_drewN | apply below_drew1) | exact HB.out)) hb); have n1_ := Aside0.mk (hbox); have n2_ := Aside0.mk ((by rw [hg]; exact (below_size (by repeat (first | (with_reducible first | exact HB.out | apply below_alloc | apply pw_below_drewN | apply below_drew1) | exact HB.out))) : w.heap.size ≤ gb242)); have n3_ := Aside0.mk ((by rw [hg]; exact (below_size (by repeat (first | (with_reducible first | exact HB.out | apply below_alloc | apply pw_below_drewN | apply below_drew1) | exact HB.out))) : w.heap.size ≤ gb242)); clear HB; have HB := n0_; have BK242 := n1_; have GW242 := n2_; have GE242 := n3_; clear n0_ n1_ n2_ n3_; clear hb hbox hg) | ((with_reducible refine gate_dst (N := 3) rfl ?_); refine box_event ?hg (N := 3) ?hd (cs := #[.int .i64 a1_0, .string a1_1, .slice A1_2 l1_2.length c1_2, .bool a1_3, .bool a1_4, .slice A1_5 l1_5.length c1_5, .slice A1_6 l1_6.length c1_6]) (t := 26) ?hr ?_; (case hd => rfl); (case hg => rfl); (case hr => first | (go_simp; done) | (go_simp; rfl)); intro gb243 hg w5 hbox hb; have n0_ := Aside0.mk (blk_below (g := gb242) (o := .cells #[.int .i64 a0_0, .string a0_1, .slice A0_2 l0_2.length c0_2, .bool a0_3, .bool a0_4, .slice A0_5 l0_5.length c0_5, .slice A0_6 l0_6.length c0_6] 26 (0, 0)) (by (with_reducible repeat (first | refine blk_drewN ?_ _ | refine blk_drew ?_ | refine blk_alloc ?_ _)); exact BK242.out) hb); have n1_ := Aside0.mk (below_step (by repeat (first | (with_reducible first | exact HB.out | apply below_alloc | apply pw_below_drewN | apply below_drew1 | refine below_set ?_ GE242.out) | exact HB.out)) hb); have n2_ := Aside0.mk (hbox); have n3_ := Aside0.mk ((by rw [hg]; exact (below_size (by repeat (first | (with_reducible first | exact HB.out | apply below_alloc | apply pw_below_drewN | apply below_drew1 | refine below_set ?_ GE242.out) | exact HB.out))) : w.heap.size ≤ gb243)); have n4_ := Aside0.mk ((by rw [hg]; exact (below_size (by repeat (first | (with_reducible first | exact HB.out | apply below_alloc | apply pw_below_drewN | apply below_drew1 | refine below_set ?_ GE242.out) | exact HB.out))) : w.heap.size ≤ gb243)); have n5_ := Aside0.mk ((by rw [hg]; exact Nat.ne_of_lt (blk_lt (g := gb242) (o := .cells #[.int .i64 a0_0, .string a0_1, .slice A0_2 l0_2.length c0_2, .bool a0_3, .bool a0_4, .slice A0_5 l0_5.length c0_5, .slice A0_6 l0_6.length c0_6] 26 (0, 0)) (by (with_reducible repeat (first | refine blk_drewN ?_ _ | refine blk_drew ?_ | refine blk_alloc ?_ _)); exact BK242.out)) : gb242 ≠ gb243)); have n6_ := Aside0.mk ((by rw [hg]; exact Nat.ne_of_gt (blk_lt (g := gb242) (o := .cells #[.int .i64 a0_0, .string a0_1, .slice A0_2 l0_2.length c0_2, .bool a0_3, .bool a0_4, .slice A0_5 l0_5.length c0_5, .slice A0_6 l0_6.length c0_6] 26 (0, 0)) (by (with_reducible repeat (first | refine blk_drewN ?_ _ | refine blk_drew ?_ | refine blk_alloc ?_ _)); exact BK242.out)) : gb243 ≠ gb242)); clear BK242; clear HB; have BK242 := n0_; have HB := n1_; have BK243 := n2_; have GW243 := n3_; have GE243 := n4_; have NB242_243 := n5_; have NB243_242 := n6_; clear n0_ n1_ n2_ n3_ n4_ n5_ n6_; clear hb hbox hg))
  (try simp only [Act.put, List.setIfInBounds_toArray, List.set_cons_zero, List.set_cons_succ])
  go_cut [12] (fun v12 wc => ∃ (kq : Nat) (x12_2 : Bool), v12 = .bool x12_2 ∧ Aside0 (galleylaw10_TreeAsks.j0 kq x12_2 a0_0 a0_1 l0_2 a0_3 a0_4 l0_5 l0_6 a1_0 a1_1 l1_2 a1_3 a1_4 l1_5 l1_6 = some r) ∧ Aside0 (kq ≤ k) ∧ Aside0 (wc.heap[gb242]? = some (.cells #[.int .i64 a0_0, .string a0_1, (.slice A0_2 l0_2.length c0_2), .bool a0_3, .bool a0_4, (.slice A0_5 l0_5.length c0_5), (.slice A0_6 l0_6.length c0_6)] 26 (0, 0))) ∧ Aside0 (wc.heap[gb243]? = some (.cells #[.int .i64 a1_0, .string a1_1, (.slice A1_2 l1_2.length c1_2), .bool a1_3, .bool a1_4, (.slice A1_5 l1_5.length c1_5), (.slice A1_6 l1_6.length c1_6)] 26 (0, 0))) ∧ Aside0 (Below w.heap.size w wc))
  case first =>
    have H := HC3.out
    clear HC3
    replace H := Option.bind_eq_some_iff.mp H
    obtain ⟨t244, A60, H⟩ := H
    replace H : (if t244 = true then ((galleylaw10_Few.f k a1_0 a1_1 l1_2 a1_3 a1_4 l1_5 l1_6).bind fun t245 => (galleylaw10_TreeAsks.j0 k (!t245) a0_0 a0_1 l0_2 a0_3 a0_4 l0_5 l0_6 a1_0 a1_1 l1_2 a1_3 a1_4 l1_5 l1_6)) else (galleylaw10_TreeAsks.j0 k true a0_0 a0_1 l0_2 a0_3 a0_4 l0_5 l0_6 a1_0 a1_1 l1_2 a1_3 a1_4 l1_5 l1_6)) = some r := H
    have A6 := Aside0.mk A60
    clear A60
    by_cases c7 : t244 = true
    · subst c7
      have H1 : ((galleylaw10_Few.f k a1_0 a1_1 l1_2 a1_3 a1_4 l1_5 l1_6).bind fun t245 => (galleylaw10_TreeAsks.j0 k (!t245) a0_0 a0_1 l0_2 a0_3 a0_4 l0_5 l0_6 a1_0 a1_1 l1_2 a1_3 a1_4 l1_5 l1_6)) = some r := by rw [if_pos rfl] at H; exact H
      clear H
      have H := H1
      clear H1
      replace H := Option.bind_eq_some_iff.mp H
      obtain ⟨t245, A80, H⟩ := H
      replace H : (galleylaw10_TreeAsks.j0 k (!t245) a0_0 a0_1 l0_2 a0_3 a0_4 l0_5 l0_6 a1_0 a1_1 l1_2 a1_3 a1_4 l1_5 l1_6) = some r := H
      have A8 := Aside0.mk A80
      clear A80
      have H' := Aside0.mk H
      clear H
      have hnb9 := NB242_243.out
      have hnc9 := NB243_242.out
      have hcz10_0 : w5.cell? ⟨gb242, 0, none⟩ = some (.int .i64 a0_0) := (blk_cell BK242.out 0).trans rfl
      have hcz10_1 : w5.cell? ⟨gb242, 1, none⟩ = some (.string a0_1) := (blk_cell BK242.out 1).trans rfl
      have hcz10_2 : w5.cell? ⟨gb242, 2, none⟩ = some (.slice A0_2 l0_2.length c0_2) := (blk_cell BK242.out 2).trans rfl
      have hcz10_3 : w5.cell? ⟨gb242, 3, none⟩ = some (.bool a0_3) := (blk_cell BK242.out 3).trans rfl
      have hcz10_4 : w5.cell? ⟨gb242, 4, none⟩ = some (.bool a0_4) := (blk_cell BK242.out 4).trans rfl
      have hcz10_5 : w5.cell? ⟨gb242, 5, none⟩ = some (.slice A0_5 l0_5.length c0_5) := (blk_cell BK242.out 5).trans rfl
      have hcz10_6 : w5.cell? ⟨gb242, 6, none⟩ = some (.slice A0_6 l0_6.length c0_6) := (blk_cell BK242.out 6).trans rfl
      have hfz10_0 := blk_frozen BK242.out 0
      have hfz10_1 := blk_frozen BK242.out 1
      have hfz10_2 := blk_frozen BK242.out 2
      have hfz10_3 := blk_frozen BK242.out 3
      have hfz10_4 := blk_frozen BK242.out 4
      have hfz10_5 := blk_frozen BK242.out 5
      have hfz10_6 := blk_frozen BK242.out 6
      go_wp2_with (first | ((with_reducible refine gate_callee (f := 14) rfl ?_); refine goesL_ (some 6) rfl rfl Try.func14 (by kernel_rfl) rfl #[.agg #[.int .i64 a0_0, .string a0_1, .slice A0_2 l0_2.length c0_2, .bool a0_3, .bool a0_4, .slice A0_5 l0_5.length c0_5, .slice A0_6 l0_6.length c0_6]] rfl (by (try simp only [List.map_toArray, List.map_cons, List.map_nil]); first | done | rfl | (simp only [List.length_drop, List.length_take]; rfl)) ?_; (with_reducible refine (galleylaw10_Few.calls k a0_0 a0_1 _ _ l0_2 a0_3 a0_4 _ _ l0_5 _ _ l0_6 true _ ?side1 ?side2 ?side3 ?side4 ?side5 ?side6 A6.out).mono ?_); (case side1 => repeat (first | exact (Kd.C_below HR0_2.out HB.out) | (with_reducible refine Kd.C_alloc ?_ _) | (with_reducible refine Kd.C_drewN ?_ _) | (with_reducible refine Kd.C_drew ?_))); (case side2 => exact HC0_2.out); (case side3 => repeat (first | exact (Kd.C_below HR0_5.out HB.out) | (with_reducible refine Kd.C_alloc ?_ _) | (with_reducible refine Kd.C_drewN ?_ _) | (with_reducible refine Kd.C_drew ?_))); (case side4 => exact HC0_5.out); (case side5 => repeat (first | exact (Kd.C_below HR0_6.out HB.out) | (with_reducible refine Kd.C_alloc ?_ _) | (with_reducible refine Kd.C_drewN ?_ _) | (with_reducible refine Kd.C_drew ?_))); (case side6 => exact HC0_6.out); rintro e w11 ⟨rfl, hb⟩; refine ⟨_, rfl, ?_⟩; have n0_ := Aside0.mk (blk_below (g := gb242) (o := .cells #[.int .i64 a0_0, .string a0_1, .slice A0_2 l0_2.length c0_2, .bool a0_3, .bool a0_4, .slice A0_5 l0_5.length c0_5, .slice A0_6 l0_6.length c0_6] 26 (0, 0)) (by (with_reducible repeat (first | refine blk_drewN ?_ _ | refine blk_drew ?_ | refine blk_alloc ?_ _)); exact BK242.out) hb); have n1_ := Aside0.mk (blk_below (g := gb243) (o := .cells #[.int .i64 a1_0, .string a1_1, .slice A1_2 l1_2.length c1_2, .bool a1_3, .bool a1_4, .slice A1_5 l1_5.length c1_5, .slice A1_6 l1_6.length c1_6] 26 (0, 0)) (by (with_reducible repeat (first | refine blk_drewN ?_ _ | refine blk_drew ?_ | refine blk_alloc ?_ _)); exact BK243.out) hb); have n2_ := Aside0.mk (below_step (by repeat (first | (with_reducible first | exact HB.out | apply below_alloc | apply pw_below_drewN | apply below_drew1 | refine below_set ?_ GE242.out | refine below_set ?_ GE243.out) | exact HB.out)) hb); clear BK242; clear BK243; clear HB; have BK242 := n0_; have BK243 := n1_; have HB := n2_; clear n0_ n1_ n2_; (try clear hb); (try clear hb2); (try clear hk); (try clear hi); have hcz12_0 : w11.cell? ⟨gb243, 0, none⟩ = some (.int .i64 a1_0) := (blk_cell BK243.out 0).trans rfl; have hcz12_1 : w11.cell? ⟨gb243, 1, none⟩ = some (.string a1_1) := (blk_cell BK243.out 1).trans rfl; have hcz12_2 : w11.cell? ⟨gb243, 2, none⟩ = some (.slice A1_2 l1_2.length c1_2) := (blk_cell BK243.out 2).trans rfl; have hcz12_3 : w11.cell? ⟨gb243, 3, none⟩ = some (.bool a1_3) := (blk_cell BK243.out 3).trans rfl; have hcz12_4 : w11.cell? ⟨gb243, 4, none⟩ = some (.bool a1_4) := (blk_cell BK243.out 4).trans rfl; have hcz12_5 : w11.cell? ⟨gb243, 5, none⟩ = some (.slice A1_5 l1_5.length c1_5) := (blk_cell BK243.out 5).trans rfl; have hcz12_6 : w11.cell? ⟨gb243, 6, none⟩ = some (.slice A1_6 l1_6.length c1_6) := (blk_cell BK243.out 6).trans rfl; have hfz12_0 := blk_frozen BK243.out 0; have hfz12_1 := blk_frozen BK243.out 1; have hfz12_2 := blk_frozen BK243.out 2; have hfz12_3 := blk_frozen BK243.out 3; have hfz12_4 := blk_frozen BK243.out 4; have hfz12_5 := blk_frozen BK243.out 5; have hfz12_6 := blk_frozen BK243.out 6) | (go_at_call 14; (with_reducible refine (galleylaw10_Few.calls k a1_0 a1_1 _ _ l1_2 a1_3 a1_4 _ _ l1_5 _ _ l1_6 t245 _ ?side1 ?side2 ?side3 ?side4 ?side5 ?side6 A8.out).mono ?_); (case side1 => repeat (first | exact (Kd.C_below HR1_2.out HB.out) | (with_reducible refine Kd.C_alloc ?_ _) | (with_reducible refine Kd.C_drewN ?_ _) | (with_reducible refine Kd.C_drew ?_))); (case side2 => exact HC1_2.out); (case side3 => repeat (first | exact (Kd.C_below HR1_5.out HB.out) | (with_reducible refine Kd.C_alloc ?_ _) | (with_reducible refine Kd.C_drewN ?_ _) | (with_reducible refine Kd.C_drew ?_))); (case side4 => exact HC1_5.out); (case side5 => repeat (first | exact (Kd.C_below HR1_6.out HB.out) | (with_reducible refine Kd.C_alloc ?_ _) | (with_reducible refine Kd.C_drewN ?_ _) | (with_reducible refine Kd.C_drew ?_))); (case side6 => exact HC1_6.out); rintro e w13 ⟨rfl, hb⟩; have n0_ := Aside0.mk (blk_below (g := gb242) (o := .cells #[.int .i64 a0_0, .string a0_1, .slice A0_2 l0_2.length c0_2, .bool a0_3, .bool a0_4, .slice A0_5 l0_5.length c0_5, .slice A0_6 l0_6.length c0_6] 26 (0, 0)) (by (with_reducible repeat (first | refine blk_drewN ?_ _ | refine blk_drew ?_ | refine blk_alloc ?_ _)); exact BK242.out) hb); have n1_ := Aside0.mk (blk_below (g := gb243) (o := .cells #[.int .i64 a1_0, .string a1_1, .slice A1_2 l1_2.length c1_2, .bool a1_3, .bool a1_4, .slice A1_5 l1_5.length c1_5, .slice A1_6 l1_6.length c1_6] 26 (0, 0)) (by (with_reducible repeat (first | refine blk_drewN ?_ _ | refine blk_drew ?_ | refine blk_alloc ?_ _)); exact BK243.out) hb); have n2_ := Aside0.mk (below_step (by repeat (first | (with_reducible first | exact HB.out | apply below_alloc | apply pw_below_drewN | apply below_drew1 | refine below_set ?_ GE242.out | refine below_set ?_ GE243.out) | exact HB.out)) hb); clear BK242; clear BK243; clear HB; have BK242 := n0_; have BK243 := n1_; have HB := n2_; clear n0_ n1_ n2_; (try clear hb); (try clear hb2); (try clear hk); (try clear hi)))
      go_meet
      case rel => exact ⟨_, (!t245), (by first | rfl | (simp; done) | (simp [*]; done)), H', ⟨by first | omega | exact Nat.le_refl _⟩, ⟨by (with_reducible repeat (first | refine blk_drewN ?_ _ | refine blk_drew ?_ | refine blk_alloc ?_ _)); exact BK242.out⟩, ⟨by (with_reducible repeat (first | refine blk_drewN ?_ _ | refine blk_drew ?_ | refine blk_alloc ?_ _)); exact BK243.out⟩, ⟨by repeat (first | (with_reducible first | exact HB.out | apply below_alloc | apply pw_below_drewN | apply below_drew1 | refine below_set ?_ GE242.out | refine below_set ?_ GE243.out) | exact HB.out)⟩⟩
    · replace c7 := Bool.eq_false_iff.mpr c7
      subst c7
      have H1 : (galleylaw10_TreeAsks.j0 k true a0_0 a0_1 l0_2 a0_3 a0_4 l0_5 l0_6 a1_0 a1_1 l1_2 a1_3 a1_4 l1_5 l1_6) = some r := by rw [if_neg (show ¬ (false = true) by decide)] at H; exact H
      clear H
      have H := H1
      clear H1
      have H' := Aside0.mk H
      clear H
      have hnb14 := NB242_243.out
      have hnc14 := NB243_242.out
      have hcz15_0 : w5.cell? ⟨gb242, 0, none⟩ = some (.int .i64 a0_0) := (blk_cell BK242.out 0).trans rfl
      have hcz15_1 : w5.cell? ⟨gb242, 1, none⟩ = some (.string a0_1) := (blk_cell BK242.out 1).trans rfl
      have hcz15_2 : w5.cell? ⟨gb242, 2, none⟩ = some (.slice A0_2 l0_2.length c0_2) := (blk_cell BK242.out 2).trans rfl
      have hcz15_3 : w5.cell? ⟨gb242, 3, none⟩ = some (.bool a0_3) := (blk_cell BK242.out 3).trans rfl
      have hcz15_4 : w5.cell? ⟨gb242, 4, none⟩ = some (.bool a0_4) := (blk_cell BK242.out 4).trans rfl
      have hcz15_5 : w5.cell? ⟨gb242, 5, none⟩ = some (.slice A0_5 l0_5.length c0_5) := (blk_cell BK242.out 5).trans rfl
      have hcz15_6 : w5.cell? ⟨gb242, 6, none⟩ = some (.slice A0_6 l0_6.length c0_6) := (blk_cell BK242.out 6).trans rfl
      have hfz15_0 := blk_frozen BK242.out 0
      have hfz15_1 := blk_frozen BK242.out 1
      have hfz15_2 := blk_frozen BK242.out 2
      have hfz15_3 := blk_frozen BK242.out 3
      have hfz15_4 := blk_frozen BK242.out 4
      have hfz15_5 := blk_frozen BK242.out 5
      have hfz15_6 := blk_frozen BK242.out 6
      go_wp2_with (first | ((with_reducible refine gate_callee (f := 14) rfl ?_); refine goesL_ (some 6) rfl rfl Try.func14 (by kernel_rfl) rfl #[.agg #[.int .i64 a0_0, .string a0_1, .slice A0_2 l0_2.length c0_2, .bool a0_3, .bool a0_4, .slice A0_5 l0_5.length c0_5, .slice A0_6 l0_6.length c0_6]] rfl (by (try simp only [List.map_toArray, List.map_cons, List.map_nil]); first | done | rfl | (simp only [List.length_drop, List.length_take]; rfl)) ?_; (with_reducible refine (galleylaw10_Few.calls k a0_0 a0_1 _ _ l0_2 a0_3 a0_4 _ _ l0_5 _ _ l0_6 false _ ?side1 ?side2 ?side3 ?side4 ?side5 ?side6 A6.out).mono ?_); (case side1 => repeat (first | exact (Kd.C_below HR0_2.out HB.out) | (with_reducible refine Kd.C_alloc ?_ _) | (with_reducible refine Kd.C_drewN ?_ _) | (with_reducible refine Kd.C_drew ?_))); (case side2 => exact HC0_2.out); (case side3 => repeat (first | exact (Kd.C_below HR0_5.out HB.out) | (with_reducible refine Kd.C_alloc ?_ _) | (with_reducible refine Kd.C_drewN ?_ _) | (with_reducible refine Kd.C_drew ?_))); (case side4 => exact HC0_5.out); (case side5 => repeat (first | exact (Kd.C_below HR0_6.out HB.out) | (with_reducible refine Kd.C_alloc ?_ _) | (with_reducible refine Kd.C_drewN ?_ _) | (with_reducible refine Kd.C_drew ?_))); (case side6 => exact HC0_6.out); rintro e w16 ⟨rfl, hb⟩; refine ⟨_, rfl, ?_⟩; have n0_ := Aside0.mk (blk_below (g := gb242) (o := .cells #[.int .i64 a0_0, .string a0_1, .slice A0_2 l0_2.length c0_2, .bool a0_3, .bool a0_4, .slice A0_5 l0_5.length c0_5, .slice A0_6 l0_6.length c0_6] 26 (0, 0)) (by (with_reducible repeat (first | refine blk_drewN ?_ _ | refine blk_drew ?_ | refine blk_alloc ?_ _)); exact BK242.out) hb); have n1_ := Aside0.mk (blk_below (g := gb243) (o := .cells #[.int .i64 a1_0, .string a1_1, .slice A1_2 l1_2.length c1_2, .bool a1_3, .bool a1_4, .slice A1_5 l1_5.length c1_5, .slice A1_6 l1_6.length c1_6] 26 (0, 0)) (by (with_reducible repeat (first | refine blk_drewN ?_ _ | refine blk_drew ?_ | refine blk_alloc ?_ _)); exact BK243.out) hb); have n2_ := Aside0.mk (below_step (by repeat (first | (with_reducible first | exact HB.out | apply below_alloc | apply pw_below_drewN | apply below_drew1 | refine below_set ?_ GE242.out | refine below_set ?_ GE243.out) | exact HB.out)) hb); clear BK242; clear BK243; clear HB; have BK242 := n0_; have BK243 := n1_; have HB := n2_; clear n0_ n1_ n2_; (try clear hb); (try clear hb2); (try clear hk); (try clear hi)))
      go_meet
      case rel => exact ⟨_, (true), (by first | rfl | (simp; done) | (simp [*]; done)), H', ⟨by first | omega | exact Nat.le_refl _⟩, ⟨by (with_reducible repeat (first | refine blk_drewN ?_ _ | refine blk_drew ?_ | refine blk_alloc ?_ _)); exact BK242.out⟩, ⟨by (with_reducible repeat (first | refine blk_drewN ?_ _ | refine blk_drew ?_ | refine blk_alloc ?_ _)); exact BK243.out⟩, ⟨by repeat (first | (with_reducible first | exact HB.out | apply below_alloc | apply pw_below_drewN | apply below_drew1 | refine below_set ?_ GE242.out | refine below_set ?_ GE243.out) | exact HB.out)⟩⟩
  case rest =>
    clear HC3
    try clear c1
    try clear p2
    try clear c4
    try clear c7
    try clear c9
    try clear c14
    try clear hcz10_0
    try clear hcz10_1
    try clear hcz10_2
    try clear hcz10_3
    try clear hcz10_4
    try clear hcz10_5
    try clear hcz10_6
    try clear hcz12_0
    try clear hcz12_1
    try clear hcz12_2
    try clear hcz12_3
    try clear hcz12_4
    try clear hcz12_5
    try clear hcz12_6
    try clear hcz15_0
    try clear hcz15_1
    try clear hcz15_2
    try clear hcz15_3
    try clear hcz15_4
    try clear hcz15_5
    try clear hcz15_6
    try clear hfz10_0
    try clear hfz10_1
    try clear hfz10_2
    try clear hfz10_3
    try clear hfz10_4
    try clear hfz10_5
    try clear hfz10_6
    try clear hfz12_0
    try clear hfz12_1
    try clear hfz12_2
    try clear hfz12_3
    try clear hfz12_4
    try clear hfz12_5
    try clear hfz12_6
    try clear hfz15_0
    try clear hfz15_1
    try clear hfz15_2
    try clear hfz15_3
    try clear hfz15_4
    try clear hfz15_5
    try clear hfz15_6
    obtain ⟨kq, x12_2, rfl, HA, HJ2, BK242, BK243, HB⟩ := hcut
    cases kq with
    | zero => exact absurd HA.out (by simp [galleylaw10_TreeAsks.j0])
    | succ kj2 =>
      have H := HA.out
      clear HA
      simp only [galleylaw10_TreeAsks.j0] at H
      by_cases c17 : x12_2 = true
      · subst c17
        have H1 : ((galleylaw10_told.f).bind fun t246 => (some t246)) = some r := by rw [if_pos rfl] at H; exact H
        clear H
        have H := H1
        clear H1
        replace H := Option.bind_eq_some_iff.mp H
        obtain ⟨t246, A180, H⟩ := H
        replace H : (some t246) = some r := H
        have A18 := Aside0.mk A180
        clear A180
        obtain rfl := Option.some.inj H
        go_wp2_with (first | ((with_reducible refine gate_callee (f := 11) rfl ?_); refine goesL_ (some 13) rfl rfl Try.func11 (by kernel_rfl) rfl #[] rfl (by (try simp only [List.map_toArray, List.map_cons, List.map_nil]); first | done | rfl | (simp only [List.length_drop, List.length_take]; rfl)) ?_; (with_reducible refine (galleylaw10_told.calls  t246 _ A18.out).mono ?_); rintro e w19 ⟨rfl, hb⟩; refine ⟨_, rfl, ?_⟩; have n0_ := Aside0.mk (blk_below (g := gb242) (o := .cells #[.int .i64 a0_0, .string a0_1, .slice A0_2 l0_2.length c0_2, .bool a0_3, .bool a0_4, .slice A0_5 l0_5.length c0_5, .slice A0_6 l0_6.length c0_6] 26 (0, 0)) (by (with_reducible repeat (first | refine blk_drewN ?_ _ | refine blk_drew ?_ | refine blk_alloc ?_ _)); exact BK242.out) hb); have n1_ := Aside0.mk (blk_below (g := gb243) (o := .cells #[.int .i64 a1_0, .string a1_1, .slice A1_2 l1_2.length c1_2, .bool a1_3, .bool a1_4, .slice A1_5 l1_5.length c1_5, .slice A1_6 l1_6.length c1_6] 26 (0, 0)) (by (with_reducible repeat (first | refine blk_drewN ?_ _ | refine blk_drew ?_ | refine blk_alloc ?_ _)); exact BK243.out) hb); have n2_ := Aside0.mk (below_step (by repeat (first | (with_reducible first | exact HB.out | apply below_alloc | apply pw_below_drewN | apply below_drew1 | refine below_set ?_ GE242.out | refine below_set ?_ GE243.out) | exact HB.out)) hb); clear BK242; clear BK243; clear HB; have BK242 := n0_; have BK243 := n1_; have HB := n2_; clear n0_ n1_ n2_; (try clear hb); (try clear hb2); (try clear hk); (try clear hi)))
        go_ret
        exact ⟨by first | rfl | (simp [errW_none, errW_some] <;> rfl) | (simp [*, errW_none, errW_some] <;> rfl), by repeat (first | (with_reducible first | exact HB.out | apply below_alloc | apply pw_below_drewN | apply below_drew1 | refine below_set ?_ GE242.out | refine below_set ?_ GE243.out) | exact HB.out)⟩
      · replace c17 := Bool.eq_false_iff.mpr c17
        subst c17
        have H1 : ((galleylaw10_told.f).bind fun t247 => (if t247 = true then ((tree_Same.f a0_0 a0_1 l0_2 a0_3 a0_4 l0_5 l0_6 a1_0 a1_1 l1_2 a1_3 a1_4 l1_5 l1_6).bind fun t248 => ((galleyref9_Same.f kj2 a0_0 a0_1 l0_2 a0_3 a0_4 l0_5 l0_6 a1_0 a1_1 l1_2 a1_3 a1_4 l1_5 l1_6).bind fun t249 => (if (t248 == t249) = true then ((tree_Like.f a0_0 a0_1 l0_2 a0_3 a0_4 l0_5 l0_6 a1_0 a1_1 l1_2 a1_3 a1_4 l1_5 l1_6).bind fun t250 => ((galleyref9_Like.f kj2 a0_0 a0_1 l0_2 a0_3 a0_4 l0_5 l0_6 a1_0 a1_1 l1_2 a1_3 a1_4 l1_5 l1_6).bind fun t251 => (if (t250 == t251) = true then ((tree_Count.f a0_0 a0_1 l0_2 a0_3 a0_4 l0_5 l0_6).bind fun t252 => ((galleyref9_Count.f kj2 a0_0 a0_1 l0_2 a0_3 a0_4 l0_5 l0_6).bind fun t253 => (if t252 = t253 then ((tree_Notes.f kj2 a0_0 a0_1 l0_2 a0_3 a0_4 l0_5 l0_6).bind fun t254 => ((galleyref9_Notes.f kj2 a0_0 a0_1 l0_2 a0_3 a0_4 l0_5 l0_6).bind fun t257 => ((galleylaw10_texts.f kj2 t254 t257).bind fun t260 => (if t260 = true then ((tree_Lits.f a0_0 a0_1 l0_2 a0_3 a0_4 l0_5 l0_6).bind fun t261 => ((galleyref9_Lits.f kj2 a0_0 a0_1 l0_2 a0_3 a0_4 l0_5 l0_6).bind fun t264 => ((galleylaw10_texts.f kj2 t261 t264).bind fun t267 => (if t267 = true then ((tree_Forced.f a0_0 a0_1 l0_2 a0_3 a0_4 l0_5 l0_6).bind fun t268 => ((galleyref9_Forced.f kj2 a0_0 a0_1 l0_2 a0_3 a0_4 l0_5 l0_6).bind fun t269 => (some (t268 == t269)))) else (some false))))) else (some false))))) else (some false)))) else (some false)))) else (some false)))) else (some false))) = some r := by rw [if_neg (show ¬ (false = true) by decide)] at H; exact H
        clear H
        have H := H1
        clear H1
        replace H := Option.bind_eq_some_iff.mp H
        obtain ⟨t247, A200, H⟩ := H
        replace H : (if t247 = true then ((tree_Same.f a0_0 a0_1 l0_2 a0_3 a0_4 l0_5 l0_6 a1_0 a1_1 l1_2 a1_3 a1_4 l1_5 l1_6).bind fun t248 => ((galleyref9_Same.f kj2 a0_0 a0_1 l0_2 a0_3 a0_4 l0_5 l0_6 a1_0 a1_1 l1_2 a1_3 a1_4 l1_5 l1_6).bind fun t249 => (if (t248 == t249) = true then ((tree_Like.f a0_0 a0_1 l0_2 a0_3 a0_4 l0_5 l0_6 a1_0 a1_1 l1_2 a1_3 a1_4 l1_5 l1_6).bind fun t250 => ((galleyref9_Like.f kj2 a0_0 a0_1 l0_2 a0_3 a0_4 l0_5 l0_6 a1_0 a1_1 l1_2 a1_3 a1_4 l1_5 l1_6).bind fun t251 => (if (t250 == t251) = true then ((tree_Count.f a0_0 a0_1 l0_2 a0_3 a0_4 l0_5 l0_6).bind fun t252 => ((galleyref9_Count.f kj2 a0_0 a0_1 l0_2 a0_3 a0_4 l0_5 l0_6).bind fun t253 => (if t252 = t253 then ((tree_Notes.f kj2 a0_0 a0_1 l0_2 a0_3 a0_4 l0_5 l0_6).bind fun t254 => ((galleyref9_Notes.f kj2 a0_0 a0_1 l0_2 a0_3 a0_4 l0_5 l0_6).bind fun t257 => ((galleylaw10_texts.f kj2 t254 t257).bind fun t260 => (if t260 = true then ((tree_Lits.f a0_0 a0_1 l0_2 a0_3 a0_4 l0_5 l0_6).bind fun t261 => ((galleyref9_Lits.f kj2 a0_0 a0_1 l0_2 a0_3 a0_4 l0_5 l0_6).bind fun t264 => ((galleylaw10_texts.f kj2 t261 t264).bind fun t267 => (if t267 = true then ((tree_Forced.f a0_0 a0_1 l0_2 a0_3 a0_4 l0_5 l0_6).bind fun t268 => ((galleyref9_Forced.f kj2 a0_0 a0_1 l0_2 a0_3 a0_4 l0_5 l0_6).bind fun t269 => (some (t268 == t269)))) else (some false))))) else (some false))))) else (some false)))) else (some false)))) else (some false)))) else (some false)) = some r := H
        have A20 := Aside0.mk A200
        clear A200
        by_cases c21 : t247 = true
        · subst c21
          have H1 : ((tree_Same.f a0_0 a0_1 l0_2 a0_3 a0_4 l0_5 l0_6 a1_0 a1_1 l1_2 a1_3 a1_4 l1_5 l1_6).bind fun t248 => ((galleyref9_Same.f kj2 a0_0 a0_1 l0_2 a0_3 a0_4 l0_5 l0_6 a1_0 a1_1 l1_2 a1_3 a1_4 l1_5 l1_6).bind fun t249 => (if (t248 == t249) = true then ((tree_Like.f a0_0 a0_1 l0_2 a0_3 a0_4 l0_5 l0_6 a1_0 a1_1 l1_2 a1_3 a1_4 l1_5 l1_6).bind fun t250 => ((galleyref9_Like.f kj2 a0_0 a0_1 l0_2 a0_3 a0_4 l0_5 l0_6 a1_0 a1_1 l1_2 a1_3 a1_4 l1_5 l1_6).bind fun t251 => (if (t250 == t251) = true then ((tree_Count.f a0_0 a0_1 l0_2 a0_3 a0_4 l0_5 l0_6).bind fun t252 => ((galleyref9_Count.f kj2 a0_0 a0_1 l0_2 a0_3 a0_4 l0_5 l0_6).bind fun t253 => (if t252 = t253 then ((tree_Notes.f kj2 a0_0 a0_1 l0_2 a0_3 a0_4 l0_5 l0_6).bind fun t254 => ((galleyref9_Notes.f kj2 a0_0 a0_1 l0_2 a0_3 a0_4 l0_5 l0_6).bind fun t257 => ((galleylaw10_texts.f kj2 t254 t257).bind fun t260 => (if t260 = true then ((tree_Lits.f a0_0 a0_1 l0_2 a0_3 a0_4 l0_5 l0_6).bind fun t261 => ((galleyref9_Lits.f kj2 a0_0 a0_1 l0_2 a0_3 a0_4 l0_5 l0_6).bind fun t264 => ((galleylaw10_texts.f kj2 t261 t264).bind fun t267 => (if t267 = true then ((tree_Forced.f a0_0 a0_1 l0_2 a0_3 a0_4 l0_5 l0_6).bind fun t268 => ((galleyref9_Forced.f kj2 a0_0 a0_1 l0_2 a0_3 a0_4 l0_5 l0_6).bind fun t269 => (some (t268 == t269)))) else (some false))))) else (some false))))) else (some false)))) else (some false)))) else (some false)))) = some r := by rw [if_pos rfl] at H; exact H
          clear H
          have H := H1
          clear H1
          replace H := Option.bind_eq_some_iff.mp H
          obtain ⟨t248, A220, H⟩ := H
          replace H : ((galleyref9_Same.f kj2 a0_0 a0_1 l0_2 a0_3 a0_4 l0_5 l0_6 a1_0 a1_1 l1_2 a1_3 a1_4 l1_5 l1_6).bind fun t249 => (if (t248 == t249) = true then ((tree_Like.f a0_0 a0_1 l0_2 a0_3 a0_4 l0_5 l0_6 a1_0 a1_1 l1_2 a1_3 a1_4 l1_5 l1_6).bind fun t250 => ((galleyref9_Like.f kj2 a0_0 a0_1 l0_2 a0_3 a0_4 l0_5 l0_6 a1_0 a1_1 l1_2 a1_3 a1_4 l1_5 l1_6).bind fun t251 => (if (t250 == t251) = true then ((tree_Count.f a0_0 a0_1 l0_2 a0_3 a0_4 l0_5 l0_6).bind fun t252 => ((galleyref9_Count.f kj2 a0_0 a0_1 l0_2 a0_3 a0_4 l0_5 l0_6).bind fun t253 => (if t252 = t253 then ((tree_Notes.f kj2 a0_0 a0_1 l0_2 a0_3 a0_4 l0_5 l0_6).bind fun t254 => ((galleyref9_Notes.f kj2 a0_0 a0_1 l0_2 a0_3 a0_4 l0_5 l0_6).bind fun t257 => ((galleylaw10_texts.f kj2 t254 t257).bind fun t260 => (if t260 = true then ((tree_Lits.f a0_0 a0_1 l0_2 a0_3 a0_4 l0_5 l0_6).bind fun t261 => ((galleyref9_Lits.f kj2 a0_0 a0_1 l0_2 a0_3 a0_4 l0_5 l0_6).bind fun t264 => ((galleylaw10_texts.f kj2 t261 t264).bind fun t267 => (if t267 = true then ((tree_Forced.f a0_0 a0_1 l0_2 a0_3 a0_4 l0_5 l0_6).bind fun t268 => ((galleyref9_Forced.f kj2 a0_0 a0_1 l0_2 a0_3 a0_4 l0_5 l0_6).bind fun t269 => (some (t268 == t269)))) else (some false))))) else (some false))))) else (some false)))) else (some false)))) else (some false))) = some r := H
          have A22 := Aside0.mk A220
          clear A220
          replace H := Option.bind_eq_some_iff.mp H
          obtain ⟨t249, A230, H⟩ := H
          replace H : (if (t248 == t249) = true then ((tree_Like.f a0_0 a0_1 l0_2 a0_3 a0_4 l0_5 l0_6 a1_0 a1_1 l1_2 a1_3 a1_4 l1_5 l1_6).bind fun t250 => ((galleyref9_Like.f kj2 a0_0 a0_1 l0_2 a0_3 a0_4 l0_5 l0_6 a1_0 a1_1 l1_2 a1_3 a1_4 l1_5 l1_6).bind fun t251 => (if (t250 == t251) = true then ((tree_Count.f a0_0 a0_1 l0_2 a0_3 a0_4 l0_5 l0_6).bind fun t252 => ((galleyref9_Count.f kj2 a0_0 a0_1 l0_2 a0_3 a0_4 l0_5 l0_6).bind fun t253 => (if t252 = t253 then ((tree_Notes.f kj2 a0_0 a0_1 l0_2 a0_3 a0_4 l0_5 l0_6).bind fun t254 => ((galleyref9_Notes.f kj2 a0_0 a0_1 l0_2 a0_3 a0_4 l0_5 l0_6).bind fun t257 => ((galleylaw10_texts.f kj2 t254 t257).bind fun t260 => (if t260 = true then ((tree_Lits.f a0_0 a0_1 l0_2 a0_3 a0_4 l0_5 l0_6).bind fun t261 => ((galleyref9_Lits.f kj2 a0_0 a0_1 l0_2 a0_3 a0_4 l0_5 l0_6).bind fun t264 => ((galleylaw10_texts.f kj2 t261 t264).bind fun t267 => (if t267 = true then ((tree_Forced.f a0_0 a0_1 l0_2 a0_3 a0_4 l0_5 l0_6).bind fun t268 => ((galleyref9_Forced.f kj2 a0_0 a0_1 l0_2 a0_3 a0_4 l0_5 l0_6).bind fun t269 => (some (t268 == t269)))) else (some false))))) else (some false))))) else (some false)))) else (some false)))) else (some false)) = some r := H
          have A23 := Aside0.mk A230
          clear A230
          by_cases c24 : (t248 == t249) = true
          · rw [if_pos c24] at H
            have c24b0 : (t248 == t249) = true := c24
            (try (have c24b1 : decide (t248 = t249) = true := by simpa using c24))
            (try (have c24b2 : (t248 == t249) = true := by simpa using c24))
            clear c24
            replace H := Option.bind_eq_some_iff.mp H
            obtain ⟨t250, A250, H⟩ := H
            replace H : ((galleyref9_Like.f kj2 a0_0 a0_1 l0_2 a0_3 a0_4 l0_5 l0_6 a1_0 a1_1 l1_2 a1_3 a1_4 l1_5 l1_6).bind fun t251 => (if (t250 == t251) = true then ((tree_Count.f a0_0 a0_1 l0_2 a0_3 a0_4 l0_5 l0_6).bind fun t252 => ((galleyref9_Count.f kj2 a0_0 a0_1 l0_2 a0_3 a0_4 l0_5 l0_6).bind fun t253 => (if t252 = t253 then ((tree_Notes.f kj2 a0_0 a0_1 l0_2 a0_3 a0_4 l0_5 l0_6).bind fun t254 => ((galleyref9_Notes.f kj2 a0_0 a0_1 l0_2 a0_3 a0_4 l0_5 l0_6).bind fun t257 => ((galleylaw10_texts.f kj2 t254 t257).bind fun t260 => (if t260 = true then ((tree_Lits.f a0_0 a0_1 l0_2 a0_3 a0_4 l0_5 l0_6).bind fun t261 => ((galleyref9_Lits.f kj2 a0_0 a0_1 l0_2 a0_3 a0_4 l0_5 l0_6).bind fun t264 => ((galleylaw10_texts.f kj2 t261 t264).bind fun t267 => (if t267 = true then ((tree_Forced.f a0_0 a0_1 l0_2 a0_3 a0_4 l0_5 l0_6).bind fun t268 => ((galleyref9_Forced.f kj2 a0_0 a0_1 l0_2 a0_3 a0_4 l0_5 l0_6).bind fun t269 => (some (t268 == t269)))) else (some false))))) else (some false))))) else (some false)))) else (some false))) = some r := H
            have A25 := Aside0.mk A250
            clear A250
            replace H := Option.bind_eq_some_iff.mp H
            obtain ⟨t251, A260, H⟩ := H
            replace H : (if (t250 == t251) = true then ((tree_Count.f a0_0 a0_1 l0_2 a0_3 a0_4 l0_5 l0_6).bind fun t252 => ((galleyref9_Count.f kj2 a0_0 a0_1 l0_2 a0_3 a0_4 l0_5 l0_6).bind fun t253 => (if t252 = t253 then ((tree_Notes.f kj2 a0_0 a0_1 l0_2 a0_3 a0_4 l0_5 l0_6).bind fun t254 => ((galleyref9_Notes.f kj2 a0_0 a0_1 l0_2 a0_3 a0_4 l0_5 l0_6).bind fun t257 => ((galleylaw10_texts.f kj2 t254 t257).bind fun t260 => (if t260 = true then ((tree_Lits.f a0_0 a0_1 l0_2 a0_3 a0_4 l0_5 l0_6).bind fun t261 => ((galleyref9_Lits.f kj2 a0_0 a0_1 l0_2 a0_3 a0_4 l0_5 l0_6).bind fun t264 => ((galleylaw10_texts.f kj2 t261 t264).bind fun t267 => (if t267 = true then ((tree_Forced.f a0_0 a0_1 l0_2 a0_3 a0_4 l0_5 l0_6).bind fun t268 => ((galleyref9_Forced.f kj2 a0_0 a0_1 l0_2 a0_3 a0_4 l0_5 l0_6).bind fun t269 => (some (t268 == t269)))) else (some false))))) else (some false))))) else (some false)))) else (some false)) = some r := H
            have A26 := Aside0.mk A260
            clear A260
            by_cases c27 : (t250 == t251) = true
            · rw [if_pos c27] at H
              have c27b0 : (t250 == t251) = true := c27
              (try (have c27b1 : decide (t250 = t251) = true := by simpa using c27))
              (try (have c27b2 : (t250 == t251) = true := by simpa using c27))
              clear c27
              replace H := Option.bind_eq_some_iff.mp H
              obtain ⟨t252, A280, H⟩ := H
              replace H : ((galleyref9_Count.f kj2 a0_0 a0_1 l0_2 a0_3 a0_4 l0_5 l0_6).bind fun t253 => (if t252 = t253 then ((tree_Notes.f kj2 a0_0 a0_1 l0_2 a0_3 a0_4 l0_5 l0_6).bind fun t254 => ((galleyref9_Notes.f kj2 a0_0 a0_1 l0_2 a0_3 a0_4 l0_5 l0_6).bind fun t257 => ((galleylaw10_texts.f kj2 t254 t257).bind fun t260 => (if t260 = true then ((tree_Lits.f a0_0 a0_1 l0_2 a0_3 a0_4 l0_5 l0_6).bind fun t261 => ((galleyref9_Lits.f kj2 a0_0 a0_1 l0_2 a0_3 a0_4 l0_5 l0_6).bind fun t264 => ((galleylaw10_texts.f kj2 t261 t264).bind fun t267 => (if t267 = true then ((tree_Forced.f a0_0 a0_1 l0_2 a0_3 a0_4 l0_5 l0_6).bind fun t268 => ((galleyref9_Forced.f kj2 a0_0 a0_1 l0_2 a0_3 a0_4 l0_5 l0_6).bind fun t269 => (some (t268 == t269)))) else (some false))))) else (some false))))) else (some false))) = some r := H
              have A28 := Aside0.mk A280
              clear A280
              replace H := Option.bind_eq_some_iff.mp H
              obtain ⟨t253, A290, H⟩ := H
              replace H : (if t252 = t253 then ((tree_Notes.f kj2 a0_0 a0_1 l0_2 a0_3 a0_4 l0_5 l0_6).bind fun t254 => ((galleyref9_Notes.f kj2 a0_0 a0_1 l0_2 a0_3 a0_4 l0_5 l0_6).bind fun t257 => ((galleylaw10_texts.f kj2 t254 t257).bind fun t260 => (if t260 = true then ((tree_Lits.f a0_0 a0_1 l0_2 a0_3 a0_4 l0_5 l0_6).bind fun t261 => ((galleyref9_Lits.f kj2 a0_0 a0_1 l0_2 a0_3 a0_4 l0_5 l0_6).bind fun t264 => ((galleylaw10_texts.f kj2 t261 t264).bind fun t267 => (if t267 = true then ((tree_Forced.f a0_0 a0_1 l0_2 a0_3 a0_4 l0_5 l0_6).bind fun t268 => ((galleyref9_Forced.f kj2 a0_0 a0_1 l0_2 a0_3 a0_4 l0_5 l0_6).bind fun t269 => (some (t268 == t269)))) else (some false))))) else (some false))))) else (some false)) = some r := H
              have A29 := Aside0.mk A290
              clear A290
              by_cases c30 : t252 = t253
              · rw [if_pos c30] at H
                have c30b0 : (t252 == t253) = true := beq_iff_eq.mpr c30
                have c30b1 : (t252 != t253) = false := bne_eq_false_iff_eq.mpr c30
                clear c30
                replace H := Option.bind_eq_some_iff.mp H
                obtain ⟨t254, A310, H⟩ := H
                replace H : ((galleyref9_Notes.f kj2 a0_0 a0_1 l0_2 a0_3 a0_4 l0_5 l0_6).bind fun t257 => ((galleylaw10_texts.f kj2 t254 t257).bind fun t260 => (if t260 = true then ((tree_Lits.f a0_0 a0_1 l0_2 a0_3 a0_4 l0_5 l0_6).bind fun t261 => ((galleyref9_Lits.f kj2 a0_0 a0_1 l0_2 a0_3 a0_4 l0_5 l0_6).bind fun t264 => ((galleylaw10_texts.f kj2 t261 t264).bind fun t267 => (if t267 = true then ((tree_Forced.f a0_0 a0_1 l0_2 a0_3 a0_4 l0_5 l0_6).bind fun t268 => ((galleyref9_Forced.f kj2 a0_0 a0_1 l0_2 a0_3 a0_4 l0_5 l0_6).bind fun t269 => (some (t268 == t269)))) else (some false))))) else (some false)))) = some r := H
                have A31 := Aside0.mk A310
                clear A310
                replace H := Option.bind_eq_some_iff.mp H
                obtain ⟨t257, A320, H⟩ := H
                replace H : ((galleylaw10_texts.f kj2 t254 t257).bind fun t260 => (if t260 = true then ((tree_Lits.f a0_0 a0_1 l0_2 a0_3 a0_4 l0_5 l0_6).bind fun t261 => ((galleyref9_Lits.f kj2 a0_0 a0_1 l0_2 a0_3 a0_4 l0_5 l0_6).bind fun t264 => ((galleylaw10_texts.f kj2 t261 t264).bind fun t267 => (if t267 = true then ((tree_Forced.f a0_0 a0_1 l0_2 a0_3 a0_4 l0_5 l0_6).bind fun t268 => ((galleyref9_Forced.f kj2 a0_0 a0_1 l0_2 a0_3 a0_4 l0_5 l0_6).bind fun t269 => (some (t268 == t269)))) else (some false))))) else (some false))) = some r := H
                have A32 := Aside0.mk A320
                clear A320
                replace H := Option.bind_eq_some_iff.mp H
                obtain ⟨t260, A330, H⟩ := H
                replace H : (if t260 = true then ((tree_Lits.f a0_0 a0_1 l0_2 a0_3 a0_4 l0_5 l0_6).bind fun t261 => ((galleyref9_Lits.f kj2 a0_0 a0_1 l0_2 a0_3 a0_4 l0_5 l0_6).bind fun t264 => ((galleylaw10_texts.f kj2 t261 t264).bind fun t267 => (if t267 = true then ((tree_Forced.f a0_0 a0_1 l0_2 a0_3 a0_4 l0_5 l0_6).bind fun t268 => ((galleyref9_Forced.f kj2 a0_0 a0_1 l0_2 a0_3 a0_4 l0_5 l0_6).bind fun t269 => (some (t268 == t269)))) else (some false))))) else (some false)) = some r := H
                have A33 := Aside0.mk A330
                clear A330
                by_cases c34 : t260 = true
                · subst c34
                  have H1 : ((tree_Lits.f a0_0 a0_1 l0_2 a0_3 a0_4 l0_5 l0_6).bind fun t261 => ((galleyref9_Lits.f kj2 a0_0 a0_1 l0_2 a0_3 a0_4 l0_5 l0_6).bind fun t264 => ((galleylaw10_texts.f kj2 t261 t264).bind fun t267 => (if t267 = true then ((tree_Forced.f a0_0 a0_1 l0_2 a0_3 a0_4 l0_5 l0_6).bind fun t268 => ((galleyref9_Forced.f kj2 a0_0 a0_1 l0_2 a0_3 a0_4 l0_5 l0_6).bind fun t269 => (some (t268 == t269)))) else (some false))))) = some r := by rw [if_pos rfl] at H; exact H
                  clear H
                  have H := H1
                  clear H1
                  replace H := Option.bind_eq_some_iff.mp H
                  obtain ⟨t261, A350, H⟩ := H
                  replace H : ((galleyref9_Lits.f kj2 a0_0 a0_1 l0_2 a0_3 a0_4 l0_5 l0_6).bind fun t264 => ((galleylaw10_texts.f kj2 t261 t264).bind fun t267 => (if t267 = true then ((tree_Forced.f a0_0 a0_1 l0_2 a0_3 a0_4 l0_5 l0_6).bind fun t268 => ((galleyref9_Forced.f kj2 a0_0 a0_1 l0_2 a0_3 a0_4 l0_5 l0_6).bind fun t269 => (some (t268 == t269)))) else (some false)))) = some r := H
                  have A35 := Aside0.mk A350
                  clear A350
                  replace H := Option.bind_eq_some_iff.mp H
                  obtain ⟨t264, A360, H⟩ := H
                  replace H : ((galleylaw10_texts.f kj2 t261 t264).bind fun t267 => (if t267 = true then ((tree_Forced.f a0_0 a0_1 l0_2 a0_3 a0_4 l0_5 l0_6).bind fun t268 => ((galleyref9_Forced.f kj2 a0_0 a0_1 l0_2 a0_3 a0_4 l0_5 l0_6).bind fun t269 => (some (t268 == t269)))) else (some false))) = some r := H
                  have A36 := Aside0.mk A360
                  clear A360
                  replace H := Option.bind_eq_some_iff.mp H
                  obtain ⟨t267, A370, H⟩ := H
                  replace H : (if t267 = true then ((tree_Forced.f a0_0 a0_1 l0_2 a0_3 a0_4 l0_5 l0_6).bind fun t268 => ((galleyref9_Forced.f kj2 a0_0 a0_1 l0_2 a0_3 a0_4 l0_5 l0_6).bind fun t269 => (some (t268 == t269)))) else (some false)) = some r := H
                  have A37 := Aside0.mk A370
                  clear A370
                  by_cases c38 : t267 = true
                  · subst c38
                    have H1 : ((tree_Forced.f a0_0 a0_1 l0_2 a0_3 a0_4 l0_5 l0_6).bind fun t268 => ((galleyref9_Forced.f kj2 a0_0 a0_1 l0_2 a0_3 a0_4 l0_5 l0_6).bind fun t269 => (some (t268 == t269)))) = some r := by rw [if_pos rfl] at H; exact H
                    clear H
                    have H := H1
                    clear H1
                    replace H := Option.bind_eq_some_iff.mp H
                    obtain ⟨t268, A390, H⟩ := H
                    replace H : ((galleyref9_Forced.f kj2 a0_0 a0_1 l0_2 a0_3 a0_4 l0_5 l0_6).bind fun t269 => (some (t268 == t269))) = some r := H
                    have A39 := Aside0.mk A390
                    clear A390
                    replace H := Option.bind_eq_some_iff.mp H
                    obtain ⟨t269, A400, H⟩ := H
                    replace H : (some (t268 == t269)) = some r := H
                    have A40 := Aside0.mk A400
                    clear A400
                    obtain rfl := Option.some.inj H
                    try go_wp2
                    have n0_ := Aside0.mk (blk_drew BK242.out)
                    have n1_ := Aside0.mk (blk_drew BK243.out)
                    have n2_ := Aside0.mk (below_drew1 HB.out)
                    clear BK242
                    clear BK243
                    clear HB
                    have BK242 := n0_
                    have BK243 := n1_
                    have HB := n2_
                    clear n0_ n1_ n2_
                    refine start_ (n := 48) (S := fun w' => w'.cell? ⟨gb242, 0, none⟩ = some (.int .i64 a0_0) ∧ w'.cell? ⟨gb242, 1, none⟩ = some (.string a0_1) ∧ w'.cell? ⟨gb242, 2, none⟩ = some (.slice A0_2 l0_2.length c0_2) ∧ w'.cell? ⟨gb242, 3, none⟩ = some (.bool a0_3) ∧ w'.cell? ⟨gb242, 4, none⟩ = some (.bool a0_4) ∧ w'.cell? ⟨gb242, 5, none⟩ = some (.slice A0_5 l0_5.length c0_5) ∧ w'.cell? ⟨gb242, 6, none⟩ = some (.slice A0_6 l0_6.length c0_6) ∧ w'.cell? ⟨gb243, 0, none⟩ = some (.int .i64 a1_0) ∧ w'.cell? ⟨gb243, 1, none⟩ = some (.string a1_1) ∧ w'.cell? ⟨gb243, 2, none⟩ = some (.slice A1_2 l1_2.length c1_2) ∧ w'.cell? ⟨gb243, 3, none⟩ = some (.bool a1_3) ∧ w'.cell? ⟨gb243, 4, none⟩ = some (.bool a1_4) ∧ w'.cell? ⟨gb243, 5, none⟩ = some (.slice A1_5 l1_5.length c1_5) ∧ w'.cell? ⟨gb243, 6, none⟩ = some (.slice A1_6 l1_6.length c1_6)) (ds := []) #[false, false, false, false, false, false, false, false, false, false, false, false, false, false, false, false, false, false, false, false, false, false, false, false, false, false, false, false, false, false, false, false, false, false, false, false, false, false, false, false, false, false, false, false, false, false, false, false] (by kernel_rfl) rfl rfl ⟨(blk_cell BK242.out 0).trans rfl, (blk_cell BK242.out 1).trans rfl, (blk_cell BK242.out 2).trans rfl, (blk_cell BK242.out 3).trans rfl, (blk_cell BK242.out 4).trans rfl, (blk_cell BK242.out 5).trans rfl, (blk_cell BK242.out 6).trans rfl, (blk_cell BK243.out 0).trans rfl, (blk_cell BK243.out 1).trans rfl, (blk_cell BK243.out 2).trans rfl, (blk_cell BK243.out 3).trans rfl, (blk_cell BK243.out 4).trans rfl, (blk_cell BK243.out 5).trans rfl, (blk_cell BK243.out 6).trans rfl⟩ (fun hHeld => ?_); refine with_tabW galleylaw10_TreeAsks.tab3 galleylaw10_TreeAsks.bits3 (fun HT_ HW_ => ?_)
                    generalize wc.drew = w41 at BK242 BK243 HB hHeld ⊢
                    refine one_ (i := 0) (N := some 14) #[true, false, false, false, false, false, false, false, false, false, false, false, false, false, false, false, false, false, false, false, false, false, false, false, false, false, false, false, false, false, false, false, false, false, false, false, false, false, false, false, false, false, false, false, false, false, false, false] rfl rfl (one_of HT_.out (by kernel_rfl)) (by decide) (fun K hK => ?_)
                    refine goes_ Try.func11 (by kernel_rfl) rfl #[] (by rfl) rfl rfl (by (try simp only [List.map_toArray, List.map_cons, List.map_nil]); first | done | rfl | (simp only [List.length_drop, List.length_take]; rfl)) ?_
                    with_reducible refine (galleylaw10_told.calls  true _ A20.out).mono ?_
                    rintro e w42 ⟨rfl, hb⟩
                    refine ⟨_, rfl, ?_⟩
                    have n0_ := Aside0.mk (blk_below (g := gb242) (o := .cells #[.int .i64 a0_0, .string a0_1, .slice A0_2 l0_2.length c0_2, .bool a0_3, .bool a0_4, .slice A0_5 l0_5.length c0_5, .slice A0_6 l0_6.length c0_6] 26 (0, 0)) (by (with_reducible repeat (first | refine blk_drewN ?_ _ | refine blk_drew ?_ | refine blk_alloc ?_ _)); exact BK242.out) hb)
                    have n1_ := Aside0.mk (blk_below (g := gb243) (o := .cells #[.int .i64 a1_0, .string a1_1, .slice A1_2 l1_2.length c1_2, .bool a1_3, .bool a1_4, .slice A1_5 l1_5.length c1_5, .slice A1_6 l1_6.length c1_6] 26 (0, 0)) (by (with_reducible repeat (first | refine blk_drewN ?_ _ | refine blk_drew ?_ | refine blk_alloc ?_ _)); exact BK243.out) hb)
                    have n2_ := Aside0.mk (below_step (by repeat (first | (with_reducible first | exact HB.out | apply below_alloc | apply pw_below_drewN | apply below_drew1 | refine below_set ?_ GE242.out | refine below_set ?_ GE243.out) | exact HB.out)) hb)
                    clear BK242
                    clear BK243
                    clear HB
                    have BK242 := n0_
                    have BK243 := n1_
                    have HB := n2_
                    clear n0_ n1_ n2_
                    (try clear hb)
                    (try clear hb2)
                    (try clear hk)
                    (try clear hi)
                    refine hK.out _ _ ⟨(blk_cell BK242.out 0).trans rfl, (blk_cell BK242.out 1).trans rfl, (blk_cell BK242.out 2).trans rfl, (blk_cell BK242.out 3).trans rfl, (blk_cell BK242.out 4).trans rfl, (blk_cell BK242.out 5).trans rfl, (blk_cell BK242.out 6).trans rfl, (blk_cell BK243.out 0).trans rfl, (blk_cell BK243.out 1).trans rfl, (blk_cell BK243.out 2).trans rfl, (blk_cell BK243.out 3).trans rfl, (blk_cell BK243.out 4).trans rfl, (blk_cell BK243.out 5).trans rfl, (blk_cell BK243.out 6).trans rfl⟩ (fun hHeld => ?_)
                    clear hK K
                    refine norm_ (a' := ?_) ?_ ?_
                    rotate_left
                    · show Act.put _ (some 14) _ = _
                      simp only [Act.put, List.setIfInBounds_toArray, List.set_cons_zero, List.set_cons_succ, i64_w, i32_w]
                      rfl
                    refine pure_ (i := 1) (N := some 15) (v := ?_) (a' := ?_) #[true, true, false, false, false, false, false, false, false, false, false, false, false, false, false, false, false, false, false, false, false, false, false, false, false, false, false, false, false, false, false, false, false, false, false, false, false, false, false, false, false, false, false, false, false, false, false, false] rfl rfl (any_of HT_.out (by kernel_rfl)) (fun _ _ _ h => h) (Or.inl ⟨by rfl, ?_⟩) ?_ ?_
                    rotate_left
                    · intro w'
                      go_simp
                      with_reducible rfl
                    rotate_left
                    · simp only [Act.put, List.setIfInBounds_toArray, List.set_cons_zero, List.set_cons_succ, i64_w, i32_w]
                      rfl
                    refine take_ (i := 2) (N := some 16) (v := ?_) (a' := ?_) #[true, true, true, false, false, false, false, false, false, false, false, false, false, false, false, false, false, false, false, false, false, false, false, false, false, false, false, false, false, false, false, false, false, false, false, false, false, false, false, false, false, false, false, false, false, false, false, false] rfl rfl (take_ofW HT_.out HW_.out (by kernel_rfl)) (fun _ _ _ h => h) (Or.inl ⟨by rfl, ?_⟩) hHeld ?_ ?_
                    rotate_left
                    · rintro w' ⟨s0, s1, s2, s3, s4, s5, s6, s7, s8, s9, s10, s11, s12, s13⟩
                      go_simp
                      with_reducible rfl
                    rotate_left
                    · simp only [Act.put, List.setIfInBounds_toArray, List.set_cons_zero, List.set_cons_succ, i64_w, i32_w]
                      rfl
                    refine take_ (i := 3) (N := some 17) (v := ?_) (a' := ?_) #[true, true, true, true, false, false, false, false, false, false, false, false, false, false, false, false, false, false, false, false, false, false, false, false, false, false, false, false, false, false, false, false, false, false, false, false, false, false, false, false, false, false, false, false, false, false, false, false] rfl rfl (take_ofW HT_.out HW_.out (by kernel_rfl)) (fun _ _ _ h => h) (Or.inl ⟨by rfl, ?_⟩) hHeld ?_ ?_
                    rotate_left
                    · rintro w' ⟨s0, s1, s2, s3, s4, s5, s6, s7, s8, s9, s10, s11, s12, s13⟩
                      go_simp
                      with_reducible rfl
                    rotate_left
                    · simp only [Act.put, List.setIfInBounds_toArray, List.set_cons_zero, List.set_cons_succ, i64_w, i32_w]
                      rfl
                    refine take_ (i := 5) (N := some 19) (v := ?_) (a' := ?_) #[true, true, true, true, false, true, false, false, false, false, false, false, false, false, false, false, false, false, false, false, false, false, false, false, false, false, false, false, false, false, false, false, false, false, false, false, false, false, false, false, false, false, false, false, false, false, false, false] rfl rfl (take_ofW HT_.out HW_.out (by kernel_rfl)) (fun _ _ _ h => h) (Or.inl ⟨by rfl, ?_⟩) hHeld ?_ ?_
                    rotate_left
                    · rintro w' ⟨s0, s1, s2, s3, s4, s5, s6, s7, s8, s9, s10, s11, s12, s13⟩
                      go_simp
                      with_reducible rfl
                    rotate_left
                    · simp only [Act.put, List.setIfInBounds_toArray, List.set_cons_zero, List.set_cons_succ, i64_w, i32_w]
                      rfl
                    refine take_ (i := 6) (N := some 20) (v := ?_) (a' := ?_) #[true, true, true, true, false, true, true, false, false, false, false, false, false, false, false, false, false, false, false, false, false, false, false, false, false, false, false, false, false, false, false, false, false, false, false, false, false, false, false, false, false, false, false, false, false, false, false, false] rfl rfl (take_ofW HT_.out HW_.out (by kernel_rfl)) (fun _ _ _ h => h) (Or.inl ⟨by rfl, ?_⟩) hHeld ?_ ?_
                    rotate_left
                    · rintro w' ⟨s0, s1, s2, s3, s4, s5, s6, s7, s8, s9, s10, s11, s12, s13⟩
                      go_simp
                      with_reducible rfl
                    rotate_left
                    · simp only [Act.put, List.setIfInBounds_toArray, List.set_cons_zero, List.set_cons_succ, i64_w, i32_w]
                      rfl
                    refine one_ (i := 4) (N := some 18) #[true, true, true, true, true, true, true, false, false, false, false, false, false, false, false, false, false, false, false, false, false, false, false, false, false, false, false, false, false, false, false, false, false, false, false, false, false, false, false, false, false, false, false, false, false, false, false, false] rfl rfl (one_of HT_.out (by kernel_rfl)) (by decide) (fun K hK => ?_)
                    refine goes_ Try.func15 (by kernel_rfl) rfl #[.agg #[.int .i64 a0_0, .string a0_1, .slice A0_2 l0_2.length c0_2, .bool a0_3, .bool a0_4, .slice A0_5 l0_5.length c0_5, .slice A0_6 l0_6.length c0_6], .agg #[.int .i64 a1_0, .string a1_1, .slice A1_2 l1_2.length c1_2, .bool a1_3, .bool a1_4, .slice A1_5 l1_5.length c1_5, .slice A1_6 l1_6.length c1_6]] (by rfl) rfl rfl (by (try simp only [List.map_toArray, List.map_cons, List.map_nil]); first | done | rfl | (simp only [List.length_drop, List.length_take]; rfl)) ?_
                    with_reducible refine (tree_Same.calls a0_0 a0_1 _ _ l0_2 a0_3 a0_4 _ _ l0_5 _ _ l0_6 a1_0 a1_1 _ _ l1_2 a1_3 a1_4 _ _ l1_5 _ _ l1_6 t248 _ ?side1 ?side2 ?side3 ?side4 ?side5 ?side6 ?side7 ?side8 ?side9 ?side10 ?side11 ?side12 A22.out).mono ?_
                    (case side1 => repeat (first | exact (Kd.C_below HR0_2.out HB.out) | (with_reducible refine Kd.C_alloc ?_ _) | (with_reducible refine Kd.C_drewN ?_ _) | (with_reducible refine Kd.C_drew ?_)))
                    (case side2 => exact HC0_2.out)
                    (case side3 => repeat (first | exact (Kd.C_below HR0_5.out HB.out) | (with_reducible refine Kd.C_alloc ?_ _) | (with_reducible refine Kd.C_drewN ?_ _) | (with_reducible refine Kd.C_drew ?_)))
                    (case side4 => exact HC0_5.out)
                    (case side5 => repeat (first | exact (Kd.C_below HR0_6.out HB.out) | (with_reducible refine Kd.C_alloc ?_ _) | (with_reducible refine Kd.C_drewN ?_ _) | (with_reducible refine Kd.C_drew ?_)))
                    (case side6 => exact HC0_6.out)
                    (case side7 => repeat (first | exact (Kd.C_below HR1_2.out HB.out) | (with_reducible refine Kd.C_alloc ?_ _) | (with_reducible refine Kd.C_drewN ?_ _) | (with_reducible refine Kd.C_drew ?_)))
                    (case side8 => exact HC1_2.out)
                    (case side9 => repeat (first | exact (Kd.C_below HR1_5.out HB.out) | (with_reducible refine Kd.C_alloc ?_ _) | (with_reducible refine Kd.C_drewN ?_ _) | (with_reducible refine Kd.C_drew ?_)))
                    (case side10 => exact HC1_5.out)
                    (case side11 => repeat (first | exact (Kd.C_below HR1_6.out HB.out) | (with_reducible refine Kd.C_alloc ?_ _) | (with_reducible refine Kd.C_drewN ?_ _) | (with_reducible refine Kd.C_drew ?_)))
                    (case side12 => exact HC1_6.out)
                    rintro e w43 ⟨rfl, hb⟩
                    refine ⟨_, rfl, ?_⟩
                    have n0_ := Aside0.mk (blk_below (g := gb242) (o := .cells #[.int .i64 a0_0, .string a0_1, .slice A0_2 l0_2.length c0_2, .bool a0_3, .bool a0_4, .slice A0_5 l0_5.length c0_5, .slice A0_6 l0_6.length c0_6] 26 (0, 0)) (by (with_reducible repeat (first | refine blk_drewN ?_ _ | refine blk_drew ?_ | refine blk_alloc ?_ _)); exact BK242.out) hb)
                    have n1_ := Aside0.mk (blk_below (g := gb243) (o := .cells #[.int .i64 a1_0, .string a1_1, .slice A1_2 l1_2.length c1_2, .bool a1_3, .bool a1_4, .slice A1_5 l1_5.length c1_5, .slice A1_6 l1_6.length c1_6] 26 (0, 0)) (by (with_reducible repeat (first | refine blk_drewN ?_ _ | refine blk_drew ?_ | refine blk_alloc ?_ _)); exact BK243.out) hb)
                    have n2_ := Aside0.mk (below_step (by repeat (first | (with_reducible first | exact HB.out | apply below_alloc | apply pw_below_drewN | apply below_drew1 | refine below_set ?_ GE242.out | refine below_set ?_ GE243.out) | exact HB.out)) hb)
                    clear BK242
                    clear BK243
                    clear HB
                    have BK242 := n0_
                    have BK243 := n1_
                    have HB := n2_
                    clear n0_ n1_ n2_
                    (try clear hb)
                    (try clear hb2)
                    (try clear hk)
                    (try clear hi)
                    refine hK.out _ _ ⟨(blk_cell BK242.out 0).trans rfl, (blk_cell BK242.out 1).trans rfl, (blk_cell BK242.out 2).trans rfl, (blk_cell BK242.out 3).trans rfl, (blk_cell BK242.out 4).trans rfl, (blk_cell BK242.out 5).trans rfl, (blk_cell BK242.out 6).trans rfl, (blk_cell BK243.out 0).trans rfl, (blk_cell BK243.out 1).trans rfl, (blk_cell BK243.out 2).trans rfl, (blk_cell BK243.out 3).trans rfl, (blk_cell BK243.out 4).trans rfl, (blk_cell BK243.out 5).trans rfl, (blk_cell BK243.out 6).trans rfl⟩ (fun hHeld => ?_)
                    clear hK K
                    refine norm_ (a' := ?_) ?_ ?_
                    rotate_left
                    · show Act.put _ (some 18) _ = _
                      simp only [Act.put, List.setIfInBounds_toArray, List.set_cons_zero, List.set_cons_succ, i64_w, i32_w]
                      rfl
                    refine one_ (i := 7) (N := some 21) #[true, true, true, true, true, true, true, true, false, false, false, false, false, false, false, false, false, false, false, false, false, false, false, false, false, false, false, false, false, false, false, false, false, false, false, false, false, false, false, false, false, false, false, false, false, false, false, false] rfl rfl (one_of HT_.out (by kernel_rfl)) (by decide) (fun K hK => ?_)
                    refine goes_ Try.func16 (by kernel_rfl) rfl #[.agg #[.int .i64 a0_0, .string a0_1, .slice A0_2 l0_2.length c0_2, .bool a0_3, .bool a0_4, .slice A0_5 l0_5.length c0_5, .slice A0_6 l0_6.length c0_6], .agg #[.int .i64 a1_0, .string a1_1, .slice A1_2 l1_2.length c1_2, .bool a1_3, .bool a1_4, .slice A1_5 l1_5.length c1_5, .slice A1_6 l1_6.length c1_6]] (by rfl) rfl rfl (by (try simp only [List.map_toArray, List.map_cons, List.map_nil]); first | done | rfl | (simp only [List.length_drop, List.length_take]; rfl)) ?_
                    with_reducible refine (galleyref9_Same.calls kj2 a0_0 a0_1 _ _ l0_2 a0_3 a0_4 _ _ l0_5 _ _ l0_6 a1_0 a1_1 _ _ l1_2 a1_3 a1_4 _ _ l1_5 _ _ l1_6 t249 _ ?side1 ?side2 ?side3 ?side4 ?side5 ?side6 ?side7 ?side8 ?side9 ?side10 ?side11 ?side12 A23.out).mono ?_
                    (case side1 => repeat (first | exact (Kd.C_below HR0_2.out HB.out) | (with_reducible refine Kd.C_alloc ?_ _) | (with_reducible refine Kd.C_drewN ?_ _) | (with_reducible refine Kd.C_drew ?_)))
                    (case side2 => exact HC0_2.out)
                    (case side3 => repeat (first | exact (Kd.C_below HR0_5.out HB.out) | (with_reducible refine Kd.C_alloc ?_ _) | (with_reducible refine Kd.C_drewN ?_ _) | (with_reducible refine Kd.C_drew ?_)))
                    (case side4 => exact HC0_5.out)
                    (case side5 => repeat (first | exact (Kd.C_below HR0_6.out HB.out) | (with_reducible refine Kd.C_alloc ?_ _) | (with_reducible refine Kd.C_drewN ?_ _) | (with_reducible refine Kd.C_drew ?_)))
                    (case side6 => exact HC0_6.out)
                    (case side7 => repeat (first | exact (Kd.C_below HR1_2.out HB.out) | (with_reducible refine Kd.C_alloc ?_ _) | (with_reducible refine Kd.C_drewN ?_ _) | (with_reducible refine Kd.C_drew ?_)))
                    (case side8 => exact HC1_2.out)
                    (case side9 => repeat (first | exact (Kd.C_below HR1_5.out HB.out) | (with_reducible refine Kd.C_alloc ?_ _) | (with_reducible refine Kd.C_drewN ?_ _) | (with_reducible refine Kd.C_drew ?_)))
                    (case side10 => exact HC1_5.out)
                    (case side11 => repeat (first | exact (Kd.C_below HR1_6.out HB.out) | (with_reducible refine Kd.C_alloc ?_ _) | (with_reducible refine Kd.C_drewN ?_ _) | (with_reducible refine Kd.C_drew ?_)))
                    (case side12 => exact HC1_6.out)
                    rintro e w44 ⟨rfl, hb⟩
                    refine ⟨_, rfl, ?_⟩
                    have n0_ := Aside0.mk (blk_below (g := gb242) (o := .cells #[.int .i64 a0_0, .string a0_1, .slice A0_2 l0_2.length c0_2, .bool a0_3, .bool a0_4, .slice A0_5 l0_5.length c0_5, .slice A0_6 l0_6.length c0_6] 26 (0, 0)) (by (with_reducible repeat (first | refine blk_drewN ?_ _ | refine blk_drew ?_ | refine blk_alloc ?_ _)); exact BK242.out) hb)
                    have n1_ := Aside0.mk (blk_below (g := gb243) (o := .cells #[.int .i64 a1_0, .string a1_1, .slice A1_2 l1_2.length c1_2, .bool a1_3, .bool a1_4, .slice A1_5 l1_5.length c1_5, .slice A1_6 l1_6.length c1_6] 26 (0, 0)) (by (with_reducible repeat (first | refine blk_drewN ?_ _ | refine blk_drew ?_ | refine blk_alloc ?_ _)); exact BK243.out) hb)
                    have n2_ := Aside0.mk (below_step (by repeat (first | (with_reducible first | exact HB.out | apply below_alloc | apply pw_below_drewN | apply below_drew1 | refine below_set ?_ GE242.out | refine below_set ?_ GE243.out) | exact HB.out)) hb)
                    clear BK242
                    clear BK243
                    clear HB
                    have BK242 := n0_
                    have BK243 := n1_
                    have HB := n2_
                    clear n0_ n1_ n2_
                    (try clear hb)
                    (try clear hb2)
                    (try clear hk)
                    (try clear hi)
                    refine hK.out _ _ ⟨(blk_cell BK242.out 0).trans rfl, (blk_cell BK242.out 1).trans rfl, (blk_cell BK242.out 2).trans rfl, (blk_cell BK242.out 3).trans rfl, (blk_cell BK242.out 4).trans rfl, (blk_cell BK242.out 5).trans rfl, (blk_cell BK242.out 6).trans rfl, (blk_cell BK243.out 0).trans rfl, (blk_cell BK243.out 1).trans rfl, (blk_cell BK243.out 2).trans rfl, (blk_cell BK243.out 3).trans rfl, (blk_cell BK243.out 4).trans rfl, (blk_cell BK243.out 5).trans rfl, (blk_cell BK243.out 6).trans rfl⟩ (fun hHeld => ?_)
                    clear hK K
                    refine norm_ (a' := ?_) ?_ ?_
                    rotate_left
                    · show Act.put _ (some 21) _ = _
                      simp only [Act.put, List.setIfInBounds_toArray, List.set_cons_zero, List.set_cons_succ, i64_w, i32_w]
                      rfl
                    refine pure_ (i := 8) (N := some 22) (v := ?_) (a' := ?_) #[true, true, true, true, true, true, true, true, true, false, false, false, false, false, false, false, false, false, false, false, false, false, false, false, false, false, false, false, false, false, false, false, false, false, false, false, false, false, false, false, false, false, false, false, false, false, false, false] rfl rfl (any_of HT_.out (by kernel_rfl)) (fun _ _ _ h => h) (Or.inl ⟨by rfl, ?_⟩) ?_ ?_
                    rotate_left
                    · intro w'
                      go_simp
                      with_reducible rfl
                    rotate_left
                    · simp only [Act.put, List.setIfInBounds_toArray, List.set_cons_zero, List.set_cons_succ, i64_w, i32_w]
                      rfl
                    refine pure_ (i := 9) (N := some 23) (v := ?_) (a' := ?_) #[true, true, true, true, true, true, true, true, true, true, false, false, false, false, false, false, false, false, false, false, false, false, false, false, false, false, false, false, false, false, false, false, false, false, false, false, false, false, false, false, false, false, false, false, false, false, false, false] rfl rfl (any_of HT_.out (by kernel_rfl)) (fun _ _ _ h => h) (Or.inl ⟨by rfl, ?_⟩) ?_ ?_
                    rotate_left
                    · intro w'
                      go_simp
                      with_reducible rfl
                    rotate_left
                    · simp only [Act.put, List.setIfInBounds_toArray, List.set_cons_zero, List.set_cons_succ, i64_w, i32_w]
                      rfl
                    refine pure_ (i := 10) (N := some 24) (v := ?_) (a' := ?_) #[true, true, true, true, true, true, true, true, true, true, true, false, false, false, false, false, false, false, false, false, false, false, false, false, false, false, false, false, false, false, false, false, false, false, false, false, false, false, false, false, false, false, false, false, false, false, false, false] rfl rfl (any_of HT_.out (by kernel_rfl)) (fun _ _ _ h => h) (Or.inl ⟨by rfl, ?_⟩) ?_ ?_
                    rotate_left
                    · intro w'
                      go_simp
                      with_reducible rfl
                    rotate_left
                    · simp only [Act.put, List.setIfInBounds_toArray, List.set_cons_zero, List.set_cons_succ, i64_w, i32_w]
                      rfl
                    refine take_ (i := 11) (N := some 25) (v := ?_) (a' := ?_) #[true, true, true, true, true, true, true, true, true, true, true, true, false, false, false, false, false, false, false, false, false, false, false, false, false, false, false, false, false, false, false, false, false, false, false, false, false, false, false, false, false, false, false, false, false, false, false, false] rfl rfl (take_ofW HT_.out HW_.out (by kernel_rfl)) (fun _ _ _ h => h) (Or.inl ⟨by rfl, ?_⟩) hHeld ?_ ?_
                    rotate_left
                    · rintro w' ⟨s0, s1, s2, s3, s4, s5, s6, s7, s8, s9, s10, s11, s12, s13⟩
                      go_simp
                      with_reducible rfl
                    rotate_left
                    · simp only [Act.put, List.setIfInBounds_toArray, List.set_cons_zero, List.set_cons_succ, i64_w, i32_w]
                      rfl
                    refine take_ (i := 12) (N := some 26) (v := ?_) (a' := ?_) #[true, true, true, true, true, true, true, true, true, true, true, true, true, false, false, false, false, false, false, false, false, false, false, false, false, false, false, false, false, false, false, false, false, false, false, false, false, false, false, false, false, false, false, false, false, false, false, false] rfl rfl (take_ofW HT_.out HW_.out (by kernel_rfl)) (fun _ _ _ h => h) (Or.inl ⟨by rfl, ?_⟩) hHeld ?_ ?_
                    rotate_left
                    · rintro w' ⟨s0, s1, s2, s3, s4, s5, s6, s7, s8, s9, s10, s11, s12, s13⟩
                      go_simp
                      with_reducible rfl
                    rotate_left
                    · simp only [Act.put, List.setIfInBounds_toArray, List.set_cons_zero, List.set_cons_succ, i64_w, i32_w]
                      rfl
                    refine take_ (i := 14) (N := some 28) (v := ?_) (a' := ?_) #[true, true, true, true, true, true, true, true, true, true, true, true, true, false, true, false, false, false, false, false, false, false, false, false, false, false, false, false, false, false, false, false, false, false, false, false, false, false, false, false, false, false, false, false, false, false, false, false] rfl rfl (take_ofW HT_.out HW_.out (by kernel_rfl)) (fun _ _ _ h => h) (Or.inl ⟨by rfl, ?_⟩) hHeld ?_ ?_
                    rotate_left
                    · rintro w' ⟨s0, s1, s2, s3, s4, s5, s6, s7, s8, s9, s10, s11, s12, s13⟩
                      go_simp
                      with_reducible rfl
                    rotate_left
                    · simp only [Act.put, List.setIfInBounds_toArray, List.set_cons_zero, List.set_cons_succ, i64_w, i32_w]
                      rfl
                    refine take_ (i := 15) (N := some 29) (v := ?_) (a' := ?_) #[true, true, true, true, true, true, true, true, true, true, true, true, true, false, true, true, false, false, false, false, false, false, false, false, false, false, false, false, false, false, false, false, false, false, false, false, false, false, false, false, false, false, false, false, false, false, false, false] rfl rfl (take_ofW HT_.out HW_.out (by kernel_rfl)) (fun _ _ _ h => h) (Or.inl ⟨by rfl, ?_⟩) hHeld ?_ ?_
                    rotate_left
                    · rintro w' ⟨s0, s1, s2, s3, s4, s5, s6, s7, s8, s9, s10, s11, s12, s13⟩
                      go_simp
                      with_reducible rfl
                    rotate_left
                    · simp only [Act.put, List.setIfInBounds_toArray, List.set_cons_zero, List.set_cons_succ, i64_w, i32_w]
                      rfl
                    refine one_ (i := 13) (N := some 27) #[true, true, true, true, true, true, true, true, true, true, true, true, true, true, true, true, false, false, false, false, false, false, false, false, false, false, false, false, false, false, false, false, false, false, false, false, false, false, false, false, false, false, false, false, false, false, false, false] rfl rfl (one_of HT_.out (by kernel_rfl)) (by decide) (fun K hK => ?_)
                    refine goes_ Try.func17 (by kernel_rfl) rfl #[.agg #[.int .i64 a0_0, .string a0_1, .slice A0_2 l0_2.length c0_2, .bool a0_3, .bool a0_4, .slice A0_5 l0_5.length c0_5, .slice A0_6 l0_6.length c0_6], .agg #[.int .i64 a1_0, .string a1_1, .slice A1_2 l1_2.length c1_2, .bool a1_3, .bool a1_4, .slice A1_5 l1_5.length c1_5, .slice A1_6 l1_6.length c1_6]] (by rfl) rfl rfl (by (try simp only [List.map_toArray, List.map_cons, List.map_nil]); first | done | rfl | (simp only [List.length_drop, List.length_take]; rfl)) ?_
                    with_reducible refine (tree_Like.calls a0_0 a0_1 _ _ l0_2 a0_3 a0_4 _ _ l0_5 _ _ l0_6 a1_0 a1_1 _ _ l1_2 a1_3 a1_4 _ _ l1_5 _ _ l1_6 t250 _ ?side1 ?side2 ?side3 ?side4 ?side5 ?side6 ?side7 ?side8 ?side9 ?side10 ?side11 ?side12 A25.out).mono ?_
                    (case side1 => repeat (first | exact (Kd.C_below HR0_2.out HB.out) | (with_reducible refine Kd.C_alloc ?_ _) | (with_reducible refine Kd.C_drewN ?_ _) | (with_reducible refine Kd.C_drew ?_)))
                    (case side2 => exact HC0_2.out)
                    (case side3 => repeat (first | exact (Kd.C_below HR0_5.out HB.out) | (with_reducible refine Kd.C_alloc ?_ _) | (with_reducible refine Kd.C_drewN ?_ _) | (with_reducible refine Kd.C_drew ?_)))
                    (case side4 => exact HC0_5.out)
                    (case side5 => repeat (first | exact (Kd.C_below HR0_6.out HB.out) | (with_reducible refine Kd.C_alloc ?_ _) | (with_reducible refine Kd.C_drewN ?_ _) | (with_reducible refine Kd.C_drew ?_)))
                    (case side6 => exact HC0_6.out)
                    (case side7 => repeat (first | exact (Kd.C_below HR1_2.out HB.out) | (with_reducible refine Kd.C_alloc ?_ _) | (with_reducible refine Kd.C_drewN ?_ _) | (with_reducible refine Kd.C_drew ?_)))
                    (case side8 => exact HC1_2.out)
                    (case side9 => repeat (first | exact (Kd.C_below HR1_5.out HB.out) | (with_reducible refine Kd.C_alloc ?_ _) | (with_reducible refine Kd.C_drewN ?_ _) | (with_reducible refine Kd.C_drew ?_)))
                    (case side10 => exact HC1_5.out)
                    (case side11 => repeat (first | exact (Kd.C_below HR1_6.out HB.out) | (with_reducible refine Kd.C_alloc ?_ _) | (with_reducible refine Kd.C_drewN ?_ _) | (with_reducible refine Kd.C_drew ?_)))
                    (case side12 => exact HC1_6.out)
                    rintro e w45 ⟨rfl, hb⟩
                    refine ⟨_, rfl, ?_⟩
                    have n0_ := Aside0.mk (blk_below (g := gb242) (o := .cells #[.int .i64 a0_0, .string a0_1, .slice A0_2 l0_2.length c0_2, .bool a0_3, .bool a0_4, .slice A0_5 l0_5.length c0_5, .slice A0_6 l0_6.length c0_6] 26 (0, 0)) (by (with_reducible repeat (first | refine blk_drewN ?_ _ | refine blk_drew ?_ | refine blk_alloc ?_ _)); exact BK242.out) hb)
                    have n1_ := Aside0.mk (blk_below (g := gb243) (o := .cells #[.int .i64 a1_0, .string a1_1, .slice A1_2 l1_2.length c1_2, .bool a1_3, .bool a1_4, .slice A1_5 l1_5.length c1_5, .slice A1_6 l1_6.length c1_6] 26 (0, 0)) (by (with_reducible repeat (first | refine blk_drewN ?_ _ | refine blk_drew ?_ | refine blk_alloc ?_ _)); exact BK243.out) hb)
                    have n2_ := Aside0.mk (below_step (by repeat (first | (with_reducible first | exact HB.out | apply below_alloc | apply pw_below_drewN | apply below_drew1 | refine below_set ?_ GE242.out | refine below_set ?_ GE243.out) | exact HB.out)) hb)
                    clear BK242
                    clear BK243
                    clear HB
                    have BK242 := n0_
                    have BK243 := n1_
                    have HB := n2_
                    clear n0_ n1_ n2_
                    (try clear hb)
                    (try clear hb2)
                    (try clear hk)
                    (try clear hi)
                    refine hK.out _ _ ⟨(blk_cell BK242.out 0).trans rfl, (blk_cell BK242.out 1).trans rfl, (blk_cell BK242.out 2).trans rfl, (blk_cell BK242.out 3).trans rfl, (blk_cell BK242.out 4).trans rfl, (blk_cell BK242.out 5).trans rfl, (blk_cell BK242.out 6).trans rfl, (blk_cell BK243.out 0).trans rfl, (blk_cell BK243.out 1).trans rfl, (blk_cell BK243.out 2).trans rfl, (blk_cell BK243.out 3).trans rfl, (blk_cell BK243.out 4).trans rfl, (blk_cell BK243.out 5).trans rfl, (blk_cell BK243.out 6).trans rfl⟩ (fun hHeld => ?_)
                    clear hK K
                    refine norm_ (a' := ?_) ?_ ?_
                    rotate_left
                    · show Act.put _ (some 27) _ = _
                      simp only [Act.put, List.setIfInBounds_toArray, List.set_cons_zero, List.set_cons_succ, i64_w, i32_w]
                      rfl
                    refine one_ (i := 16) (N := some 30) #[true, true, true, true, true, true, true, true, true, true, true, true, true, true, true, true, true, false, false, false, false, false, false, false, false, false, false, false, false, false, false, false, false, false, false, false, false, false, false, false, false, false, false, false, false, false, false, false] rfl rfl (one_of HT_.out (by kernel_rfl)) (by decide) (fun K hK => ?_)
                    refine goes_ Try.func18 (by kernel_rfl) rfl #[.agg #[.int .i64 a0_0, .string a0_1, .slice A0_2 l0_2.length c0_2, .bool a0_3, .bool a0_4, .slice A0_5 l0_5.length c0_5, .slice A0_6 l0_6.length c0_6], .agg #[.int .i64 a1_0, .string a1_1, .slice A1_2 l1_2.length c1_2, .bool a1_3, .bool a1_4, .slice A1_5 l1_5.length c1_5, .slice A1_6 l1_6.length c1_6]] (by rfl) rfl rfl (by (try simp only [List.map_toArray, List.map_cons, List.map_nil]); first | done | rfl | (simp only [List.length_drop, List.length_take]; rfl)) ?_
                    with_reducible refine (galleyref9_Like.calls kj2 a0_0 a0_1 _ _ l0_2 a0_3 a0_4 _ _ l0_5 _ _ l0_6 a1_0 a1_1 _ _ l1_2 a1_3 a1_4 _ _ l1_5 _ _ l1_6 t251 _ ?side1 ?side2 ?side3 ?side4 ?side5 ?side6 ?side7 ?side8 ?side9 ?side10 ?side11 ?side12 A26.out).mono ?_
                    (case side1 => repeat (first | exact (Kd.C_below HR0_2.out HB.out) | (with_reducible refine Kd.C_alloc ?_ _) | (with_reducible refine Kd.C_drewN ?_ _) | (with_reducible refine Kd.C_drew ?_)))
                    (case side2 => exact HC0_2.out)
                    (case side3 => repeat (first | exact (Kd.C_below HR0_5.out HB.out) | (with_reducible refine Kd.C_alloc ?_ _) | (with_reducible refine Kd.C_drewN ?_ _) | (with_reducible refine Kd.C_drew ?_)))
                    (case side4 => exact HC0_5.out)
                    (case side5 => repeat (first | exact (Kd.C_below HR0_6.out HB.out) | (with_reducible refine Kd.C_alloc ?_ _) | (with_reducible refine Kd.C_drewN ?_ _) | (with_reducible refine Kd.C_drew ?_)))
                    (case side6 => exact HC0_6.out)
                    (case side7 => repeat (first | exact (Kd.C_below HR1_2.out HB.out) | (with_reducible refine Kd.C_alloc ?_ _) | (with_reducible refine Kd.C_drewN ?_ _) | (with_reducible refine Kd.C_drew ?_)))
                    (case side8 => exact HC1_2.out)
                    (case side9 => repeat (first | exact (Kd.C_below HR1_5.out HB.out) | (with_reducible refine Kd.C_alloc ?_ _) | (with_reducible refine Kd.C_drewN ?_ _) | (with_reducible refine Kd.C_drew ?_)))
                    (case side10 => exact HC1_5.out)
                    (case side11 => repeat (first | exact (Kd.C_below HR1_6.out HB.out) | (with_reducible refine Kd.C_alloc ?_ _) | (with_reducible refine Kd.C_drewN ?_ _) | (with_reducible refine Kd.C_drew ?_)))
                    (case side12 => exact HC1_6.out)
                    rintro e w46 ⟨rfl, hb⟩
                    refine ⟨_, rfl, ?_⟩
                    have n0_ := Aside0.mk (blk_below (g := gb242) (o := .cells #[.int .i64 a0_0, .string a0_1, .slice A0_2 l0_2.length c0_2, .bool a0_3, .bool a0_4, .slice A0_5 l0_5.length c0_5, .slice A0_6 l0_6.length c0_6] 26 (0, 0)) (by (with_reducible repeat (first | refine blk_drewN ?_ _ | refine blk_drew ?_ | refine blk_alloc ?_ _)); exact BK242.out) hb)
                    have n1_ := Aside0.mk (blk_below (g := gb243) (o := .cells #[.int .i64 a1_0, .string a1_1, .slice A1_2 l1_2.length c1_2, .bool a1_3, .bool a1_4, .slice A1_5 l1_5.length c1_5, .slice A1_6 l1_6.length c1_6] 26 (0, 0)) (by (with_reducible repeat (first | refine blk_drewN ?_ _ | refine blk_drew ?_ | refine blk_alloc ?_ _)); exact BK243.out) hb)
                    have n2_ := Aside0.mk (below_step (by repeat (first | (with_reducible first | exact HB.out | apply below_alloc | apply pw_below_drewN | apply below_drew1 | refine below_set ?_ GE242.out | refine below_set ?_ GE243.out) | exact HB.out)) hb)
                    clear BK242
                    clear BK243
                    clear HB
                    have BK242 := n0_
                    have BK243 := n1_
                    have HB := n2_
                    clear n0_ n1_ n2_
                    (try clear hb)
                    (try clear hb2)
                    (try clear hk)
                    (try clear hi)
                    refine hK.out _ _ ⟨(blk_cell BK242.out 0).trans rfl, (blk_cell BK242.out 1).trans rfl, (blk_cell BK242.out 2).trans rfl, (blk_cell BK242.out 3).trans rfl, (blk_cell BK242.out 4).trans rfl, (blk_cell BK242.out 5).trans rfl, (blk_cell BK242.out 6).trans rfl, (blk_cell BK243.out 0).trans rfl, (blk_cell BK243.out 1).trans rfl, (blk_cell BK243.out 2).trans rfl, (blk_cell BK243.out 3).trans rfl, (blk_cell BK243.out 4).trans rfl, (blk_cell BK243.out 5).trans rfl, (blk_cell BK243.out 6).trans rfl⟩ (fun hHeld => ?_)
                    clear hK K
                    refine norm_ (a' := ?_) ?_ ?_
                    rotate_left
                    · show Act.put _ (some 30) _ = _
                      simp only [Act.put, List.setIfInBounds_toArray, List.set_cons_zero, List.set_cons_succ, i64_w, i32_w]
                      rfl
                    refine pure_ (i := 17) (N := some 31) (v := ?_) (a' := ?_) #[true, true, true, true, true, true, true, true, true, true, true, true, true, true, true, true, true, true, false, false, false, false, false, false, false, false, false, false, false, false, false, false, false, false, false, false, false, false, false, false, false, false, false, false, false, false, false, false] rfl rfl (any_of HT_.out (by kernel_rfl)) (fun _ _ _ h => h) (Or.inl ⟨by rfl, ?_⟩) ?_ ?_
                    rotate_left
                    · intro w'
                      go_simp
                      with_reducible rfl
                    rotate_left
                    · simp only [Act.put, List.setIfInBounds_toArray, List.set_cons_zero, List.set_cons_succ, i64_w, i32_w]
                      rfl
                    refine pure_ (i := 18) (N := some 32) (v := ?_) (a' := ?_) #[true, true, true, true, true, true, true, true, true, true, true, true, true, true, true, true, true, true, true, false, false, false, false, false, false, false, false, false, false, false, false, false, false, false, false, false, false, false, false, false, false, false, false, false, false, false, false, false] rfl rfl (any_of HT_.out (by kernel_rfl)) (fun _ _ _ h => h) (Or.inl ⟨by rfl, ?_⟩) ?_ ?_
                    rotate_left
                    · intro w'
                      go_simp
                      with_reducible rfl
                    rotate_left
                    · simp only [Act.put, List.setIfInBounds_toArray, List.set_cons_zero, List.set_cons_succ, i64_w, i32_w]
                      rfl
                    refine pure_ (i := 19) (N := some 33) (v := ?_) (a' := ?_) #[true, true, true, true, true, true, true, true, true, true, true, true, true, true, true, true, true, true, true, true, false, false, false, false, false, false, false, false, false, false, false, false, false, false, false, false, false, false, false, false, false, false, false, false, false, false, false, false] rfl rfl (any_of HT_.out (by kernel_rfl)) (fun _ _ _ h => h) (Or.inl ⟨by rfl, ?_⟩) ?_ ?_
                    rotate_left
                    · intro w'
                      go_simp
                      with_reducible rfl
                    rotate_left
                    · simp only [Act.put, List.setIfInBounds_toArray, List.set_cons_zero, List.set_cons_succ, i64_w, i32_w]
                      rfl
                    refine take_ (i := 20) (N := some 34) (v := ?_) (a' := ?_) #[true, true, true, true, true, true, true, true, true, true, true, true, true, true, true, true, true, true, true, true, true, false, false, false, false, false, false, false, false, false, false, false, false, false, false, false, false, false, false, false, false, false, false, false, false, false, false, false] rfl rfl (take_ofW HT_.out HW_.out (by kernel_rfl)) (fun _ _ _ h => h) (Or.inl ⟨by rfl, ?_⟩) hHeld ?_ ?_
                    rotate_left
                    · rintro w' ⟨s0, s1, s2, s3, s4, s5, s6, s7, s8, s9, s10, s11, s12, s13⟩
                      go_simp
                      with_reducible rfl
                    rotate_left
                    · simp only [Act.put, List.setIfInBounds_toArray, List.set_cons_zero, List.set_cons_succ, i64_w, i32_w]
                      rfl
                    refine take_ (i := 22) (N := some 36) (v := ?_) (a' := ?_) #[true, true, true, true, true, true, true, true, true, true, true, true, true, true, true, true, true, true, true, true, true, false, true, false, false, false, false, false, false, false, false, false, false, false, false, false, false, false, false, false, false, false, false, false, false, false, false, false] rfl rfl (take_ofW HT_.out HW_.out (by kernel_rfl)) (fun _ _ _ h => h) (Or.inl ⟨by rfl, ?_⟩) hHeld ?_ ?_
                    rotate_left
                    · rintro w' ⟨s0, s1, s2, s3, s4, s5, s6, s7, s8, s9, s10, s11, s12, s13⟩
                      go_simp
                      with_reducible rfl
                    rotate_left
                    · simp only [Act.put, List.setIfInBounds_toArray, List.set_cons_zero, List.set_cons_succ, i64_w, i32_w]
                      rfl
                    refine one_ (i := 21) (N := some 35) #[true, true, true, true, true, true, true, true, true, true, true, true, true, true, true, true, true, true, true, true, true, true, true, false, false, false, false, false, false, false, false, false, false, false, false, false, false, false, false, false, false, false, false, false, false, false, false, false] rfl rfl (one_of HT_.out (by kernel_rfl)) (by decide) (fun K hK => ?_)
                    refine goes_ Try.func19 (by kernel_rfl) rfl #[.agg #[.int .i64 a0_0, .string a0_1, .slice A0_2 l0_2.length c0_2, .bool a0_3, .bool a0_4, .slice A0_5 l0_5.length c0_5, .slice A0_6 l0_6.length c0_6]] (by rfl) rfl rfl (by (try simp only [List.map_toArray, List.map_cons, List.map_nil]); first | done | rfl | (simp only [List.length_drop, List.length_take]; rfl)) ?_
                    with_reducible refine (tree_Count.calls a0_0 a0_1 _ _ l0_2 a0_3 a0_4 _ _ l0_5 _ _ l0_6 t252 _ ?side1 ?side2 ?side3 ?side4 ?side5 ?side6 A28.out).mono ?_
                    (case side1 => repeat (first | exact (Kd.C_below HR0_2.out HB.out) | (with_reducible refine Kd.C_alloc ?_ _) | (with_reducible refine Kd.C_drewN ?_ _) | (with_reducible refine Kd.C_drew ?_)))
                    (case side2 => exact HC0_2.out)
                    (case side3 => repeat (first | exact (Kd.C_below HR0_5.out HB.out) | (with_reducible refine Kd.C_alloc ?_ _) | (with_reducible refine Kd.C_drewN ?_ _) | (with_reducible refine Kd.C_drew ?_)))
                    (case side4 => exact HC0_5.out)
                    (case side5 => repeat (first | exact (Kd.C_below HR0_6.out HB.out) | (with_reducible refine Kd.C_alloc ?_ _) | (with_reducible refine Kd.C_drewN ?_ _) | (with_reducible refine Kd.C_drew ?_)))
                    (case side6 => exact HC0_6.out)
                    rintro e w47 ⟨rfl, hb⟩
                    refine ⟨_, rfl, ?_⟩
                    have n0_ := Aside0.mk (blk_below (g := gb242) (o := .cells #[.int .i64 a0_0, .string a0_1, .slice A0_2 l0_2.length c0_2, .bool a0_3, .bool a0_4, .slice A0_5 l0_5.length c0_5, .slice A0_6 l0_6.length c0_6] 26 (0, 0)) (by (with_reducible repeat (first | refine blk_drewN ?_ _ | refine blk_drew ?_ | refine blk_alloc ?_ _)); exact BK242.out) hb)
                    have n1_ := Aside0.mk (blk_below (g := gb243) (o := .cells #[.int .i64 a1_0, .string a1_1, .slice A1_2 l1_2.length c1_2, .bool a1_3, .bool a1_4, .slice A1_5 l1_5.length c1_5, .slice A1_6 l1_6.length c1_6] 26 (0, 0)) (by (with_reducible repeat (first | refine blk_drewN ?_ _ | refine blk_drew ?_ | refine blk_alloc ?_ _)); exact BK243.out) hb)
                    have n2_ := Aside0.mk (below_step (by repeat (first | (with_reducible first | exact HB.out | apply below_alloc | apply pw_below_drewN | apply below_drew1 | refine below_set ?_ GE242.out | refine below_set ?_ GE243.out) | exact HB.out)) hb)
                    clear BK242
                    clear BK243
                    clear HB
                    have BK242 := n0_
                    have BK243 := n1_
                    have HB := n2_
                    clear n0_ n1_ n2_
                    (try clear hb)
                    (try clear hb2)
                    (try clear hk)
                    (try clear hi)
                    refine hK.out _ _ ⟨(blk_cell BK242.out 0).trans rfl, (blk_cell BK242.out 1).trans rfl, (blk_cell BK242.out 2).trans rfl, (blk_cell BK242.out 3).trans rfl, (blk_cell BK242.out 4).trans rfl, (blk_cell BK242.out 5).trans rfl, (blk_cell BK242.out 6).trans rfl, (blk_cell BK243.out 0).trans rfl, (blk_cell BK243.out 1).trans rfl, (blk_cell BK243.out 2).trans rfl, (blk_cell BK243.out 3).trans rfl, (blk_cell BK243.out 4).trans rfl, (blk_cell BK243.out 5).trans rfl, (blk_cell BK243.out 6).trans rfl⟩ (fun hHeld => ?_)
                    clear hK K
                    refine norm_ (a' := ?_) ?_ ?_
                    rotate_left
                    · show Act.put _ (some 35) _ = _
                      simp only [Act.put, List.setIfInBounds_toArray, List.set_cons_zero, List.set_cons_succ, i64_w, i32_w]
                      rfl
                    refine one_ (i := 23) (N := some 37) #[true, true, true, true, true, true, true, true, true, true, true, true, true, true, true, true, true, true, true, true, true, true, true, true, false, false, false, false, false, false, false, false, false, false, false, false, false, false, false, false, false, false, false, false, false, false, false, false] rfl rfl (one_of HT_.out (by kernel_rfl)) (by decide) (fun K hK => ?_)
                    refine goes_ Try.func20 (by kernel_rfl) rfl #[.agg #[.int .i64 a0_0, .string a0_1, .slice A0_2 l0_2.length c0_2, .bool a0_3, .bool a0_4, .slice A0_5 l0_5.length c0_5, .slice A0_6 l0_6.length c0_6]] (by rfl) rfl rfl (by (try simp only [List.map_toArray, List.map_cons, List.map_nil]); first | done | rfl | (simp only [List.length_drop, List.length_take]; rfl)) ?_
                    with_reducible refine (galleyref9_Count.calls kj2 a0_0 a0_1 _ _ l0_2 a0_3 a0_4 _ _ l0_5 _ _ l0_6 t253 _ ?side1 ?side2 ?side3 ?side4 ?side5 ?side6 A29.out).mono ?_
                    (case side1 => repeat (first | exact (Kd.C_below HR0_2.out HB.out) | (with_reducible refine Kd.C_alloc ?_ _) | (with_reducible refine Kd.C_drewN ?_ _) | (with_reducible refine Kd.C_drew ?_)))
                    (case side2 => exact HC0_2.out)
                    (case side3 => repeat (first | exact (Kd.C_below HR0_5.out HB.out) | (with_reducible refine Kd.C_alloc ?_ _) | (with_reducible refine Kd.C_drewN ?_ _) | (with_reducible refine Kd.C_drew ?_)))
                    (case side4 => exact HC0_5.out)
                    (case side5 => repeat (first | exact (Kd.C_below HR0_6.out HB.out) | (with_reducible refine Kd.C_alloc ?_ _) | (with_reducible refine Kd.C_drewN ?_ _) | (with_reducible refine Kd.C_drew ?_)))
                    (case side6 => exact HC0_6.out)
                    rintro e w48 ⟨rfl, hb⟩
                    refine ⟨_, rfl, ?_⟩
                    have n0_ := Aside0.mk (blk_below (g := gb242) (o := .cells #[.int .i64 a0_0, .string a0_1, .slice A0_2 l0_2.length c0_2, .bool a0_3, .bool a0_4, .slice A0_5 l0_5.length c0_5, .slice A0_6 l0_6.length c0_6] 26 (0, 0)) (by (with_reducible repeat (first | refine blk_drewN ?_ _ | refine blk_drew ?_ | refine blk_alloc ?_ _)); exact BK242.out) hb)
                    have n1_ := Aside0.mk (blk_below (g := gb243) (o := .cells #[.int .i64 a1_0, .string a1_1, .slice A1_2 l1_2.length c1_2, .bool a1_3, .bool a1_4, .slice A1_5 l1_5.length c1_5, .slice A1_6 l1_6.length c1_6] 26 (0, 0)) (by (with_reducible repeat (first | refine blk_drewN ?_ _ | refine blk_drew ?_ | refine blk_alloc ?_ _)); exact BK243.out) hb)
                    have n2_ := Aside0.mk (below_step (by repeat (first | (with_reducible first | exact HB.out | apply below_alloc | apply pw_below_drewN | apply below_drew1 | refine below_set ?_ GE242.out | refine below_set ?_ GE243.out) | exact HB.out)) hb)
                    clear BK242
                    clear BK243
                    clear HB
                    have BK242 := n0_
                    have BK243 := n1_
                    have HB := n2_
                    clear n0_ n1_ n2_
                    (try clear hb)
                    (try clear hb2)
                    (try clear hk)
                    (try clear hi)
                    refine hK.out _ _ ⟨(blk_cell BK242.out 0).trans rfl, (blk_cell BK242.out 1).trans rfl, (blk_cell BK242.out 2).trans rfl, (blk_cell BK242.out 3).trans rfl, (blk_cell BK242.out 4).trans rfl, (blk_cell BK242.out 5).trans rfl, (blk_cell BK242.out 6).trans rfl, (blk_cell BK243.out 0).trans rfl, (blk_cell BK243.out 1).trans rfl, (blk_cell BK243.out 2).trans rfl, (blk_cell BK243.out 3).trans rfl, (blk_cell BK243.out 4).trans rfl, (blk_cell BK243.out 5).trans rfl, (blk_cell BK243.out 6).trans rfl⟩ (fun hHeld => ?_)
                    clear hK K
                    refine norm_ (a' := ?_) ?_ ?_
                    rotate_left
                    · show Act.put _ (some 37) _ = _
                      simp only [Act.put, List.setIfInBounds_toArray, List.set_cons_zero, List.set_cons_succ, i64_w, i32_w]
                      rfl
                    refine pure_ (i := 24) (N := some 38) (v := ?_) (a' := ?_) #[true, true, true, true, true, true, true, true, true, true, true, true, true, true, true, true, true, true, true, true, true, true, true, true, true, false, false, false, false, false, false, false, false, false, false, false, false, false, false, false, false, false, false, false, false, false, false, false] rfl rfl (any_of HT_.out (by kernel_rfl)) (fun _ _ _ h => h) (Or.inl ⟨by rfl, ?_⟩) ?_ ?_
                    rotate_left
                    · intro w'
                      go_simp
                      with_reducible rfl
                    rotate_left
                    · simp only [Act.put, List.setIfInBounds_toArray, List.set_cons_zero, List.set_cons_succ, i64_w, i32_w]
                      rfl
                    refine pure_ (i := 25) (N := some 39) (v := ?_) (a' := ?_) #[true, true, true, true, true, true, true, true, true, true, true, true, true, true, true, true, true, true, true, true, true, true, true, true, true, true, false, false, false, false, false, false, false, false, false, false, false, false, false, false, false, false, false, false, false, false, false, false] rfl rfl (any_of HT_.out (by kernel_rfl)) (fun _ _ _ h => h) (Or.inl ⟨by rfl, ?_⟩) ?_ ?_
                    rotate_left
                    · intro w'
                      go_simp
                      with_reducible rfl
                    rotate_left
                    · simp only [Act.put, List.setIfInBounds_toArray, List.set_cons_zero, List.set_cons_succ, i64_w, i32_w]
                      rfl
                    refine pure_ (i := 26) (N := some 40) (v := ?_) (a' := ?_) #[true, true, true, true, true, true, true, true, true, true, true, true, true, true, true, true, true, true, true, true, true, true, true, true, true, true, true, false, false, false, false, false, false, false, false, false, false, false, false, false, false, false, false, false, false, false, false, false] rfl rfl (any_of HT_.out (by kernel_rfl)) (fun _ _ _ h => h) (Or.inl ⟨by rfl, ?_⟩) ?_ ?_
                    rotate_left
                    · intro w'
                      go_simp
                      with_reducible rfl
                    rotate_left
                    · simp only [Act.put, List.setIfInBounds_toArray, List.set_cons_zero, List.set_cons_succ, i64_w, i32_w]
                      rfl
                    refine take_ (i := 27) (N := some 41) (v := ?_) (a' := ?_) #[true, true, true, true, true, true, true, true, true, true, true, true, true, true, true, true, true, true, true, true, true, true, true, true, true, true, true, true, false, false, false, false, false, false, false, false, false, false, false, false, false, false, false, false, false, false, false, false] rfl rfl (take_ofW HT_.out HW_.out (by kernel_rfl)) (fun _ _ _ h => h) (Or.inl ⟨by rfl, ?_⟩) hHeld ?_ ?_
                    rotate_left
                    · rintro w' ⟨s0, s1, s2, s3, s4, s5, s6, s7, s8, s9, s10, s11, s12, s13⟩
                      go_simp
                      with_reducible rfl
                    rotate_left
                    · simp only [Act.put, List.setIfInBounds_toArray, List.set_cons_zero, List.set_cons_succ, i64_w, i32_w]
                      rfl
                    refine take_ (i := 29) (N := some 43) (v := ?_) (a' := ?_) #[true, true, true, true, true, true, true, true, true, true, true, true, true, true, true, true, true, true, true, true, true, true, true, true, true, true, true, true, false, true, false, false, false, false, false, false, false, false, false, false, false, false, false, false, false, false, false, false] rfl rfl (take_ofW HT_.out HW_.out (by kernel_rfl)) (fun _ _ _ h => h) (Or.inl ⟨by rfl, ?_⟩) hHeld ?_ ?_
                    rotate_left
                    · rintro w' ⟨s0, s1, s2, s3, s4, s5, s6, s7, s8, s9, s10, s11, s12, s13⟩
                      go_simp
                      with_reducible rfl
                    rotate_left
                    · simp only [Act.put, List.setIfInBounds_toArray, List.set_cons_zero, List.set_cons_succ, i64_w, i32_w]
                      rfl
                    refine one_ (i := 28) (N := some 42) #[true, true, true, true, true, true, true, true, true, true, true, true, true, true, true, true, true, true, true, true, true, true, true, true, true, true, true, true, true, true, false, false, false, false, false, false, false, false, false, false, false, false, false, false, false, false, false, false] rfl rfl (one_of HT_.out (by kernel_rfl)) (by decide) (fun K hK => ?_)
                    refine goes_ Try.func13 (by kernel_rfl) rfl #[.agg #[.int .i64 a0_0, .string a0_1, .slice A0_2 l0_2.length c0_2, .bool a0_3, .bool a0_4, .slice A0_5 l0_5.length c0_5, .slice A0_6 l0_6.length c0_6]] (by rfl) rfl rfl (by (try simp only [List.map_toArray, List.map_cons, List.map_nil]); first | done | rfl | (simp only [List.length_drop, List.length_take]; rfl)) ?_
                    with_reducible refine (tree_Notes.calls kj2 a0_0 a0_1 _ _ l0_2 a0_3 a0_4 _ _ l0_5 _ _ l0_6 t254 _ ?side1 ?side2 ?side3 ?side4 ?side5 ?side6 A31.out).mono ?_
                    (case side1 => repeat (first | exact (Kd.C_below HR0_2.out HB.out) | (with_reducible refine Kd.C_alloc ?_ _) | (with_reducible refine Kd.C_drewN ?_ _) | (with_reducible refine Kd.C_drew ?_)))
                    (case side2 => exact HC0_2.out)
                    (case side3 => repeat (first | exact (Kd.C_below HR0_5.out HB.out) | (with_reducible refine Kd.C_alloc ?_ _) | (with_reducible refine Kd.C_drewN ?_ _) | (with_reducible refine Kd.C_drew ?_)))
                    (case side4 => exact HC0_5.out)
                    (case side5 => repeat (first | exact (Kd.C_below HR0_6.out HB.out) | (with_reducible refine Kd.C_alloc ?_ _) | (with_reducible refine Kd.C_drewN ?_ _) | (with_reducible refine Kd.C_drew ?_)))
                    (case side6 => exact HC0_6.out)
                    rintro e w49 ⟨v255, rfl, ho0, hb⟩
                    refine ⟨_, rfl, ?_⟩
                    have n0_ := Aside0.mk (Kd.R_lower ho0 (below_size (by repeat (first | (with_reducible first | exact HB.out | apply below_alloc | apply pw_below_drewN | apply below_drew1 | refine below_set ?_ GE242.out | refine below_set ?_ GE243.out) | exact HB.out))))
                    have n1_ := Aside0.mk (blk_below (g := gb242) (o := .cells #[.int .i64 a0_0, .string a0_1, .slice A0_2 l0_2.length c0_2, .bool a0_3, .bool a0_4, .slice A0_5 l0_5.length c0_5, .slice A0_6 l0_6.length c0_6] 26 (0, 0)) (by (with_reducible repeat (first | refine blk_drewN ?_ _ | refine blk_drew ?_ | refine blk_alloc ?_ _)); exact BK242.out) hb)
                    have n2_ := Aside0.mk (blk_below (g := gb243) (o := .cells #[.int .i64 a1_0, .string a1_1, .slice A1_2 l1_2.length c1_2, .bool a1_3, .bool a1_4, .slice A1_5 l1_5.length c1_5, .slice A1_6 l1_6.length c1_6] 26 (0, 0)) (by (with_reducible repeat (first | refine blk_drewN ?_ _ | refine blk_drew ?_ | refine blk_alloc ?_ _)); exact BK243.out) hb)
                    have n3_ := Aside0.mk (below_step (by repeat (first | (with_reducible first | exact HB.out | apply below_alloc | apply pw_below_drewN | apply below_drew1 | refine below_set ?_ GE242.out | refine below_set ?_ GE243.out) | exact HB.out)) hb)
                    clear BK242
                    clear BK243
                    clear HB
                    have HO256 := n0_
                    have BK242 := n1_
                    have BK243 := n2_
                    have HB := n3_
                    clear n0_ n1_ n2_ n3_
                    (try clear hb)
                    (try clear hb2)
                    (try clear hk)
                    (try clear hi)
                    (try clear ho0)
                    refine hK.out _ _ ⟨(blk_cell BK242.out 0).trans rfl, (blk_cell BK242.out 1).trans rfl, (blk_cell BK242.out 2).trans rfl, (blk_cell BK242.out 3).trans rfl, (blk_cell BK242.out 4).trans rfl, (blk_cell BK242.out 5).trans rfl, (blk_cell BK242.out 6).trans rfl, (blk_cell BK243.out 0).trans rfl, (blk_cell BK243.out 1).trans rfl, (blk_cell BK243.out 2).trans rfl, (blk_cell BK243.out 3).trans rfl, (blk_cell BK243.out 4).trans rfl, (blk_cell BK243.out 5).trans rfl, (blk_cell BK243.out 6).trans rfl⟩ (fun hHeld => ?_)
                    clear hK K
                    refine norm_ (a' := ?_) ?_ ?_
                    rotate_left
                    · show Act.put _ (some 42) _ = _
                      simp only [Act.put, List.setIfInBounds_toArray, List.set_cons_zero, List.set_cons_succ, i64_w, i32_w]
                      rfl
                    refine one_ (i := 30) (N := some 44) #[true, true, true, true, true, true, true, true, true, true, true, true, true, true, true, true, true, true, true, true, true, true, true, true, true, true, true, true, true, true, true, false, false, false, false, false, false, false, false, false, false, false, false, false, false, false, false, false] rfl rfl (one_of HT_.out (by kernel_rfl)) (by decide) (fun K hK => ?_)
                    refine goes_ Try.func22 (by kernel_rfl) rfl #[.agg #[.int .i64 a0_0, .string a0_1, .slice A0_2 l0_2.length c0_2, .bool a0_3, .bool a0_4, .slice A0_5 l0_5.length c0_5, .slice A0_6 l0_6.length c0_6]] (by rfl) rfl rfl (by (try simp only [List.map_toArray, List.map_cons, List.map_nil]); first | done | rfl | (simp only [List.length_drop, List.length_take]; rfl)) ?_
                    with_reducible refine (galleyref9_Notes.calls kj2 a0_0 a0_1 _ _ l0_2 a0_3 a0_4 _ _ l0_5 _ _ l0_6 t257 _ ?side1 ?side2 ?side3 ?side4 ?side5 ?side6 A32.out).mono ?_
                    (case side1 => repeat (first | exact (Kd.C_below HR0_2.out HB.out) | (with_reducible refine Kd.C_alloc ?_ _) | (with_reducible refine Kd.C_drewN ?_ _) | (with_reducible refine Kd.C_drew ?_)))
                    (case side2 => exact HC0_2.out)
                    (case side3 => repeat (first | exact (Kd.C_below HR0_5.out HB.out) | (with_reducible refine Kd.C_alloc ?_ _) | (with_reducible refine Kd.C_drewN ?_ _) | (with_reducible refine Kd.C_drew ?_)))
                    (case side4 => exact HC0_5.out)
                    (case side5 => repeat (first | exact (Kd.C_below HR0_6.out HB.out) | (with_reducible refine Kd.C_alloc ?_ _) | (with_reducible refine Kd.C_drewN ?_ _) | (with_reducible refine Kd.C_drew ?_)))
                    (case side6 => exact HC0_6.out)
                    rintro e w50 ⟨v258, rfl, ho0, hb⟩
                    refine ⟨_, rfl, ?_⟩
                    have n0_ := Aside0.mk (Kd.R_elder' (by (with_reducible repeat (first | apply Kd.R_alloc | apply Kd.R_drewN | apply Kd.R_drew)); exact HO256.out) (Kd.R_base ho0) hb)
                    have n1_ := Aside0.mk (Kd.R_lower (Kd.R_new' ho0 (Kd.R_lt (by (with_reducible repeat (first | apply Kd.R_alloc | apply Kd.R_drewN | apply Kd.R_drew)); exact HO256.out))) (below_size (by repeat (first | (with_reducible first | exact HB.out | apply below_alloc | apply pw_below_drewN | apply below_drew1 | refine below_set ?_ GE242.out | refine below_set ?_ GE243.out) | exact HB.out))))
                    have n2_ := Aside0.mk (blk_below (g := gb242) (o := .cells #[.int .i64 a0_0, .string a0_1, .slice A0_2 l0_2.length c0_2, .bool a0_3, .bool a0_4, .slice A0_5 l0_5.length c0_5, .slice A0_6 l0_6.length c0_6] 26 (0, 0)) (by (with_reducible repeat (first | refine blk_drewN ?_ _ | refine blk_drew ?_ | refine blk_alloc ?_ _)); exact BK242.out) hb)
                    have n3_ := Aside0.mk (blk_below (g := gb243) (o := .cells #[.int .i64 a1_0, .string a1_1, .slice A1_2 l1_2.length c1_2, .bool a1_3, .bool a1_4, .slice A1_5 l1_5.length c1_5, .slice A1_6 l1_6.length c1_6] 26 (0, 0)) (by (with_reducible repeat (first | refine blk_drewN ?_ _ | refine blk_drew ?_ | refine blk_alloc ?_ _)); exact BK243.out) hb)
                    have n4_ := Aside0.mk (below_step (by repeat (first | (with_reducible first | exact HB.out | apply below_alloc | apply pw_below_drewN | apply below_drew1 | refine below_set ?_ GE242.out | refine below_set ?_ GE243.out) | exact HB.out)) hb)
                    clear HO256
                    clear BK242
                    clear BK243
                    clear HB
                    have HO256 := n0_
                    have HO259 := n1_
                    have BK242 := n2_
                    have BK243 := n3_
                    have HB := n4_
                    clear n0_ n1_ n2_ n3_ n4_
                    (try clear hb)
                    (try clear hb2)
                    (try clear hk)
                    (try clear hi)
                    (try clear ho0)
                    obtain ⟨Ao51, co51, eo51⟩ := Kd.R_slice HO256.out
                    (first | subst eo51 | (injection eo51 with f1_ f2_ f3_; have f4_ := f1_.symm; have f5_ := f3_.symm; clear f1_ f2_ f3_; subst f4_; subst f5_))
                    obtain ⟨Ao52, co52, eo52⟩ := Kd.R_slice HO259.out
                    (first | subst eo52 | (injection eo52 with f1_ f2_ f3_; have f4_ := f1_.symm; have f5_ := f3_.symm; clear f1_ f2_ f3_; subst f4_; subst f5_))
                    refine hK.out _ _ ⟨(blk_cell BK242.out 0).trans rfl, (blk_cell BK242.out 1).trans rfl, (blk_cell BK242.out 2).trans rfl, (blk_cell BK242.out 3).trans rfl, (blk_cell BK242.out 4).trans rfl, (blk_cell BK242.out 5).trans rfl, (blk_cell BK242.out 6).trans rfl, (blk_cell BK243.out 0).trans rfl, (blk_cell BK243.out 1).trans rfl, (blk_cell BK243.out 2).trans rfl, (blk_cell BK243.out 3).trans rfl, (blk_cell BK243.out 4).trans rfl, (blk_cell BK243.out 5).trans rfl, (blk_cell BK243.out 6).trans rfl⟩ (fun hHeld => ?_)
                    clear hK K
                    refine norm_ (a' := ?_) ?_ ?_
                    rotate_left
                    · show Act.put _ (some 44) _ = _
                      simp only [Act.put, List.setIfInBounds_toArray, List.set_cons_zero, List.set_cons_succ, i64_w, i32_w]
                      rfl
                    refine one_ (i := 31) (N := some 45) #[true, true, true, true, true, true, true, true, true, true, true, true, true, true, true, true, true, true, true, true, true, true, true, true, true, true, true, true, true, true, true, true, false, false, false, false, false, false, false, false, false, false, false, false, false, false, false, false] rfl rfl (one_of HT_.out (by kernel_rfl)) (by decide) (fun K hK => ?_)
                    refine goes_ Try.func21 (by kernel_rfl) rfl #[.slice Ao51 t254.length co51, .slice Ao52 t257.length co52] (by rfl) rfl rfl (by (try simp only [List.map_toArray, List.map_cons, List.map_nil]); first | done | rfl | (simp only [List.length_drop, List.length_take]; rfl)) ?_
                    with_reducible refine (galleylaw10_texts.calls kj2 _ _ t254 _ _ t257 true _ ?side1 ?side2 ?side3 ?side4 A33.out).mono ?_
                    (case side1 => repeat (first | exact (Kd.R_reads' HO256.out).2.2 | (with_reducible refine Kd.C_alloc ?_ _) | (with_reducible refine Kd.C_drewN ?_ _) | (with_reducible refine Kd.C_drew ?_)))
                    (case side2 => exact (Kd.R_reads' HO256.out).2.1)
                    (case side3 => repeat (first | exact (Kd.R_reads' HO259.out).2.2 | (with_reducible refine Kd.C_alloc ?_ _) | (with_reducible refine Kd.C_drewN ?_ _) | (with_reducible refine Kd.C_drew ?_)))
                    (case side4 => exact (Kd.R_reads' HO259.out).2.1)
                    rintro e w' ⟨rfl, ⟨nd, rfl⟩⟩
                    refine ⟨_, rfl, ?_⟩
                    refine hK.out _ _ ⟨(blk_cell BK242.out 0).trans rfl, (blk_cell BK242.out 1).trans rfl, (blk_cell BK242.out 2).trans rfl, (blk_cell BK242.out 3).trans rfl, (blk_cell BK242.out 4).trans rfl, (blk_cell BK242.out 5).trans rfl, (blk_cell BK242.out 6).trans rfl, (blk_cell BK243.out 0).trans rfl, (blk_cell BK243.out 1).trans rfl, (blk_cell BK243.out 2).trans rfl, (blk_cell BK243.out 3).trans rfl, (blk_cell BK243.out 4).trans rfl, (blk_cell BK243.out 5).trans rfl, (blk_cell BK243.out 6).trans rfl⟩ (fun hHeld => ?_)
                    clear hK K
                    refine norm_ (a' := ?_) ?_ ?_
                    rotate_left
                    · show Act.put _ (some 45) _ = _
                      simp only [Act.put, List.setIfInBounds_toArray, List.set_cons_zero, List.set_cons_succ, i64_w, i32_w]
                      rfl
                    refine pure_ (i := 32) (N := some 46) (v := ?_) (a' := ?_) #[true, true, true, true, true, true, true, true, true, true, true, true, true, true, true, true, true, true, true, true, true, true, true, true, true, true, true, true, true, true, true, true, true, false, false, false, false, false, false, false, false, false, false, false, false, false, false, false] rfl rfl (any_of HT_.out (by kernel_rfl)) (fun _ _ _ h => h) (Or.inl ⟨by rfl, ?_⟩) ?_ ?_
                    rotate_left
                    · intro w'
                      go_simp
                      with_reducible rfl
                    rotate_left
                    · simp only [Act.put, List.setIfInBounds_toArray, List.set_cons_zero, List.set_cons_succ, i64_w, i32_w]
                      rfl
                    refine pure_ (i := 33) (N := some 47) (v := ?_) (a' := ?_) #[true, true, true, true, true, true, true, true, true, true, true, true, true, true, true, true, true, true, true, true, true, true, true, true, true, true, true, true, true, true, true, true, true, true, false, false, false, false, false, false, false, false, false, false, false, false, false, false] rfl rfl (any_of HT_.out (by kernel_rfl)) (fun _ _ _ h => h) (Or.inl ⟨by rfl, ?_⟩) ?_ ?_
                    rotate_left
                    · intro w'
                      go_simp
                      with_reducible rfl
                    rotate_left
                    · simp only [Act.put, List.setIfInBounds_toArray, List.set_cons_zero, List.set_cons_succ, i64_w, i32_w]
                      rfl
                    refine take_ (i := 34) (N := some 48) (v := ?_) (a' := ?_) #[true, true, true, true, true, true, true, true, true, true, true, true, true, true, true, true, true, true, true, true, true, true, true, true, true, true, true, true, true, true, true, true, true, true, true, false, false, false, false, false, false, false, false, false, false, false, false, false] rfl rfl (take_ofW HT_.out HW_.out (by kernel_rfl)) (fun _ _ _ h => h) (Or.inl ⟨by rfl, ?_⟩) hHeld ?_ ?_
                    rotate_left
                    · rintro w' ⟨s0, s1, s2, s3, s4, s5, s6, s7, s8, s9, s10, s11, s12, s13⟩
                      go_simp
                      with_reducible rfl
                    rotate_left
                    · simp only [Act.put, List.setIfInBounds_toArray, List.set_cons_zero, List.set_cons_succ, i64_w, i32_w]
                      rfl
                    refine take_ (i := 36) (N := some 50) (v := ?_) (a' := ?_) #[true, true, true, true, true, true, true, true, true, true, true, true, true, true, true, true, true, true, true, true, true, true, true, true, true, true, true, true, true, true, true, true, true, true, true, false, true, false, false, false, false, false, false, false, false, false, false, false] rfl rfl (take_ofW HT_.out HW_.out (by kernel_rfl)) (fun _ _ _ h => h) (Or.inl ⟨by rfl, ?_⟩) hHeld ?_ ?_
                    rotate_left
                    · rintro w' ⟨s0, s1, s2, s3, s4, s5, s6, s7, s8, s9, s10, s11, s12, s13⟩
                      go_simp
                      with_reducible rfl
                    rotate_left
                    · simp only [Act.put, List.setIfInBounds_toArray, List.set_cons_zero, List.set_cons_succ, i64_w, i32_w]
                      rfl
                    refine one_ (i := 35) (N := some 49) #[true, true, true, true, true, true, true, true, true, true, true, true, true, true, true, true, true, true, true, true, true, true, true, true, true, true, true, true, true, true, true, true, true, true, true, true, true, false, false, false, false, false, false, false, false, false, false, false] rfl rfl (one_of HT_.out (by kernel_rfl)) (by decide) (fun K hK => ?_)
                    refine goes_ Try.func12 (by kernel_rfl) rfl #[.agg #[.int .i64 a0_0, .string a0_1, .slice A0_2 l0_2.length c0_2, .bool a0_3, .bool a0_4, .slice A0_5 l0_5.length c0_5, .slice A0_6 l0_6.length c0_6]] (by rfl) rfl rfl (by (try simp only [List.map_toArray, List.map_cons, List.map_nil]); first | done | rfl | (simp only [List.length_drop, List.length_take]; rfl)) ?_
                    with_reducible refine (tree_Lits.calls a0_0 a0_1 _ _ l0_2 a0_3 a0_4 _ _ l0_5 _ _ l0_6 t261 _ ?side1 ?side2 ?side3 ?side4 ?side5 ?side6 A35.out).mono ?_
                    (case side1 => repeat (first | exact (Kd.C_below HR0_2.out (by repeat (first | (with_reducible first | exact HB.out | apply below_alloc | apply pw_below_drewN | apply below_drew1 | refine below_set ?_ GE242.out | refine below_set ?_ GE243.out) | exact HB.out))) | (with_reducible refine Kd.C_alloc ?_ _) | (with_reducible refine Kd.C_drewN ?_ _) | (with_reducible refine Kd.C_drew ?_)))
                    (case side2 => exact HC0_2.out)
                    (case side3 => repeat (first | exact (Kd.C_below HR0_5.out (by repeat (first | (with_reducible first | exact HB.out | apply below_alloc | apply pw_below_drewN | apply below_drew1 | refine below_set ?_ GE242.out | refine below_set ?_ GE243.out) | exact HB.out))) | (with_reducible refine Kd.C_alloc ?_ _) | (with_reducible refine Kd.C_drewN ?_ _) | (with_reducible refine Kd.C_drew ?_)))
                    (case side4 => exact HC0_5.out)
                    (case side5 => repeat (first | exact (Kd.C_below HR0_6.out (by repeat (first | (with_reducible first | exact HB.out | apply below_alloc | apply pw_below_drewN | apply below_drew1 | refine below_set ?_ GE242.out | refine below_set ?_ GE243.out) | exact HB.out))) | (with_reducible refine Kd.C_alloc ?_ _) | (with_reducible refine Kd.C_drewN ?_ _) | (with_reducible refine Kd.C_drew ?_)))
                    (case side6 => exact HC0_6.out)
                    rintro e w53 ⟨v262, rfl, ho0, hb⟩
                    refine ⟨_, rfl, ?_⟩
                    have n0_ := Aside0.mk (Kd.R_elder' (by (with_reducible repeat (first | apply Kd.R_alloc | apply Kd.R_drewN | apply Kd.R_drew)); exact HO256.out) (Kd.R_base ho0) hb)
                    have n1_ := Aside0.mk (Kd.R_elder' (by (with_reducible repeat (first | apply Kd.R_alloc | apply Kd.R_drewN | apply Kd.R_drew)); exact HO259.out) (Kd.R_base ho0) hb)
                    have n2_ := Aside0.mk (Kd.R_lower (Kd.R_new' (Kd.R_new' ho0 (Kd.R_lt (by (with_reducible repeat (first | apply Kd.R_alloc | apply Kd.R_drewN | apply Kd.R_drew)); exact HO256.out))) (Kd.R_lt (by (with_reducible repeat (first | apply Kd.R_alloc | apply Kd.R_drewN | apply Kd.R_drew)); exact HO259.out))) (below_size (by repeat (first | (with_reducible first | exact HB.out | apply below_alloc | apply pw_below_drewN | apply below_drew1 | refine below_set ?_ GE242.out | refine below_set ?_ GE243.out) | exact HB.out))))
                    have n3_ := Aside0.mk (blk_below (g := gb242) (o := .cells #[.int .i64 a0_0, .string a0_1, .slice A0_2 l0_2.length c0_2, .bool a0_3, .bool a0_4, .slice A0_5 l0_5.length c0_5, .slice A0_6 l0_6.length c0_6] 26 (0, 0)) (by (with_reducible repeat (first | refine blk_drewN ?_ _ | refine blk_drew ?_ | refine blk_alloc ?_ _)); exact BK242.out) hb)
                    have n4_ := Aside0.mk (blk_below (g := gb243) (o := .cells #[.int .i64 a1_0, .string a1_1, .slice A1_2 l1_2.length c1_2, .bool a1_3, .bool a1_4, .slice A1_5 l1_5.length c1_5, .slice A1_6 l1_6.length c1_6] 26 (0, 0)) (by (with_reducible repeat (first | refine blk_drewN ?_ _ | refine blk_drew ?_ | refine blk_alloc ?_ _)); exact BK243.out) hb)
                    have n5_ := Aside0.mk (below_step (by repeat (first | (with_reducible first | exact HB.out | apply below_alloc | apply pw_below_drewN | apply below_drew1 | refine below_set ?_ GE242.out | refine below_set ?_ GE243.out) | exact HB.out)) hb)
                    clear HO256
                    clear HO259
                    clear BK242
                    clear BK243
                    clear HB
                    have HO256 := n0_
                    have HO259 := n1_
                    have HO263 := n2_
                    have BK242 := n3_
                    have BK243 := n4_
                    have HB := n5_
                    clear n0_ n1_ n2_ n3_ n4_ n5_
                    (try clear hb)
                    (try clear hb2)
                    (try clear hk)
                    (try clear hi)
                    (try clear ho0)
                    refine hK.out _ _ ⟨(blk_cell BK242.out 0).trans rfl, (blk_cell BK242.out 1).trans rfl, (blk_cell BK242.out 2).trans rfl, (blk_cell BK242.out 3).trans rfl, (blk_cell BK242.out 4).trans rfl, (blk_cell BK242.out 5).trans rfl, (blk_cell BK242.out 6).trans rfl, (blk_cell BK243.out 0).trans rfl, (blk_cell BK243.out 1).trans rfl, (blk_cell BK243.out 2).trans rfl, (blk_cell BK243.out 3).trans rfl, (blk_cell BK243.out 4).trans rfl, (blk_cell BK243.out 5).trans rfl, (blk_cell BK243.out 6).trans rfl⟩ (fun hHeld => ?_)
                    clear hK K
                    refine norm_ (a' := ?_) ?_ ?_
                    rotate_left
                    · show Act.put _ (some 49) _ = _
                      simp only [Act.put, List.setIfInBounds_toArray, List.set_cons_zero, List.set_cons_succ, i64_w, i32_w]
                      rfl
                    refine one_ (i := 37) (N := some 51) #[true, true, true, true, true, true, true, true, true, true, true, true, true, true, true, true, true, true, true, true, true, true, true, true, true, true, true, true, true, true, true, true, true, true, true, true, true, true, false, false, false, false, false, false, false, false, false, false] rfl rfl (one_of HT_.out (by kernel_rfl)) (by decide) (fun K hK => ?_)
                    refine goes_ Try.func23 (by kernel_rfl) rfl #[.agg #[.int .i64 a0_0, .string a0_1, .slice A0_2 l0_2.length c0_2, .bool a0_3, .bool a0_4, .slice A0_5 l0_5.length c0_5, .slice A0_6 l0_6.length c0_6]] (by rfl) rfl rfl (by (try simp only [List.map_toArray, List.map_cons, List.map_nil]); first | done | rfl | (simp only [List.length_drop, List.length_take]; rfl)) ?_
                    with_reducible refine (galleyref9_Lits.calls kj2 a0_0 a0_1 _ _ l0_2 a0_3 a0_4 _ _ l0_5 _ _ l0_6 t264 _ ?side1 ?side2 ?side3 ?side4 ?side5 ?side6 A36.out).mono ?_
                    (case side1 => repeat (first | exact (Kd.C_below HR0_2.out HB.out) | (with_reducible refine Kd.C_alloc ?_ _) | (with_reducible refine Kd.C_drewN ?_ _) | (with_reducible refine Kd.C_drew ?_)))
                    (case side2 => exact HC0_2.out)
                    (case side3 => repeat (first | exact (Kd.C_below HR0_5.out HB.out) | (with_reducible refine Kd.C_alloc ?_ _) | (with_reducible refine Kd.C_drewN ?_ _) | (with_reducible refine Kd.C_drew ?_)))
                    (case side4 => exact HC0_5.out)
                    (case side5 => repeat (first | exact (Kd.C_below HR0_6.out HB.out) | (with_reducible refine Kd.C_alloc ?_ _) | (with_reducible refine Kd.C_drewN ?_ _) | (with_reducible refine Kd.C_drew ?_)))
                    (case side6 => exact HC0_6.out)
                    rintro e w54 ⟨v265, rfl, ho0, hb⟩
                    refine ⟨_, rfl, ?_⟩
                    have n0_ := Aside0.mk (Kd.R_elder' (by (with_reducible repeat (first | apply Kd.R_alloc | apply Kd.R_drewN | apply Kd.R_drew)); exact HO256.out) (Kd.R_base ho0) hb)
                    have n1_ := Aside0.mk (Kd.R_elder' (by (with_reducible repeat (first | apply Kd.R_alloc | apply Kd.R_drewN | apply Kd.R_drew)); exact HO259.out) (Kd.R_base ho0) hb)
                    have n2_ := Aside0.mk (Kd.R_elder' (by (with_reducible repeat (first | apply Kd.R_alloc | apply Kd.R_drewN | apply Kd.R_drew)); exact HO263.out) (Kd.R_base ho0) hb)
                    have n3_ := Aside0.mk (Kd.R_lower (Kd.R_new' (Kd.R_new' (Kd.R_new' ho0 (Kd.R_lt (by (with_reducible repeat (first | apply Kd.R_alloc | apply Kd.R_drewN | apply Kd.R_drew)); exact HO256.out))) (Kd.R_lt (by (with_reducible repeat (first | apply Kd.R_alloc | apply Kd.R_drewN | apply Kd.R_drew)); exact HO259.out))) (Kd.R_lt (by (with_reducible repeat (first | apply Kd.R_alloc | apply Kd.R_drewN | apply Kd.R_drew)); exact HO263.out))) (below_size (by repeat (first | (with_reducible first | exact HB.out | apply below_alloc | apply pw_below_drewN | apply below_drew1 | refine below_set ?_ GE242.out | refine below_set ?_ GE243.out) | exact HB.out))))
                    have n4_ := Aside0.mk (blk_below (g := gb242) (o := .cells #[.int .i64 a0_0, .string a0_1, .slice A0_2 l0_2.length c0_2, .bool a0_3, .bool a0_4, .slice A0_5 l0_5.length c0_5, .slice A0_6 l0_6.length c0_6] 26 (0, 0)) (by (with_reducible repeat (first | refine blk_drewN ?_ _ | refine blk_drew ?_ | refine blk_alloc ?_ _)); exact BK242.out) hb)
                    have n5_ := Aside0.mk (blk_below (g := gb243) (o := .cells #[.int .i64 a1_0, .string a1_1, .slice A1_2 l1_2.length c1_2, .bool a1_3, .bool a1_4, .slice A1_5 l1_5.length c1_5, .slice A1_6 l1_6.length c1_6] 26 (0, 0)) (by (with_reducible repeat (first | refine blk_drewN ?_ _ | refine blk_drew ?_ | refine blk_alloc ?_ _)); exact BK243.out) hb)
                    have n6_ := Aside0.mk (below_step (by repeat (first | (with_reducible first | exact HB.out | apply below_alloc | apply pw_below_drewN | apply below_drew1 | refine below_set ?_ GE242.out | refine below_set ?_ GE243.out) | exact HB.out)) hb)
                    clear HO256
                    clear HO259
                    clear HO263
                    clear BK242
                    clear BK243
                    clear HB
                    have HO256 := n0_
                    have HO259 := n1_
                    have HO263 := n2_
                    have HO266 := n3_
                    have BK242 := n4_
                    have BK243 := n5_
                    have HB := n6_
                    clear n0_ n1_ n2_ n3_ n4_ n5_ n6_
                    (try clear hb)
                    (try clear hb2)
                    (try clear hk)
                    (try clear hi)
                    (try clear ho0)
                    obtain ⟨Ao55, co55, eo55⟩ := Kd.R_slice HO263.out
                    (first | subst eo55 | (injection eo55 with f1_ f2_ f3_; have f4_ := f1_.symm; have f5_ := f3_.symm; clear f1_ f2_ f3_; subst f4_; subst f5_))
                    obtain ⟨Ao56, co56, eo56⟩ := Kd.R_slice HO266.out
                    (first | subst eo56 | (injection eo56 with f1_ f2_ f3_; have f4_ := f1_.symm; have f5_ := f3_.symm; clear f1_ f2_ f3_; subst f4_; subst f5_))
                    refine hK.out _ _ ⟨(blk_cell BK242.out 0).trans rfl, (blk_cell BK242.out 1).trans rfl, (blk_cell BK242.out 2).trans rfl, (blk_cell BK242.out 3).trans rfl, (blk_cell BK242.out 4).trans rfl, (blk_cell BK242.out 5).trans rfl, (blk_cell BK242.out 6).trans rfl, (blk_cell BK243.out 0).trans rfl, (blk_cell BK243.out 1).trans rfl, (blk_cell BK243.out 2).trans rfl, (blk_cell BK243.out 3).trans rfl, (blk_cell BK243.out 4).trans rfl, (blk_cell BK243.out 5).trans rfl, (blk_cell BK243.out 6).trans rfl⟩ (fun hHeld => ?_)
                    clear hK K
                    refine norm_ (a' := ?_) ?_ ?_
                    rotate_left
                    · show Act.put _ (some 51) _ = _
                      simp only [Act.put, List.setIfInBounds_toArray, List.set_cons_zero, List.set_cons_succ, i64_w, i32_w]
                      rfl
                    refine one_ (i := 38) (N := some 52) #[true, true, true, true, true, true, true, true, true, true, true, true, true, true, true, true, true, true, true, true, true, true, true, true, true, true, true, true, true, true, true, true, true, true, true, true, true, true, true, false, false, false, false, false, false, false, false, false] rfl rfl (one_of HT_.out (by kernel_rfl)) (by decide) (fun K hK => ?_)
                    refine goes_ Try.func21 (by kernel_rfl) rfl #[.slice Ao55 t261.length co55, .slice Ao56 t264.length co56] (by rfl) rfl rfl (by (try simp only [List.map_toArray, List.map_cons, List.map_nil]); first | done | rfl | (simp only [List.length_drop, List.length_take]; rfl)) ?_
                    with_reducible refine (galleylaw10_texts.calls kj2 _ _ t261 _ _ t264 true _ ?side1 ?side2 ?side3 ?side4 A37.out).mono ?_
                    (case side1 => repeat (first | exact (Kd.R_reads' HO263.out).2.2 | (with_reducible refine Kd.C_alloc ?_ _) | (with_reducible refine Kd.C_drewN ?_ _) | (with_reducible refine Kd.C_drew ?_)))
                    (case side2 => exact (Kd.R_reads' HO263.out).2.1)
                    (case side3 => repeat (first | exact (Kd.R_reads' HO266.out).2.2 | (with_reducible refine Kd.C_alloc ?_ _) | (with_reducible refine Kd.C_drewN ?_ _) | (with_reducible refine Kd.C_drew ?_)))
                    (case side4 => exact (Kd.R_reads' HO266.out).2.1)
                    rintro e w' ⟨rfl, ⟨nd, rfl⟩⟩
                    refine ⟨_, rfl, ?_⟩
                    refine hK.out _ _ ⟨(blk_cell BK242.out 0).trans rfl, (blk_cell BK242.out 1).trans rfl, (blk_cell BK242.out 2).trans rfl, (blk_cell BK242.out 3).trans rfl, (blk_cell BK242.out 4).trans rfl, (blk_cell BK242.out 5).trans rfl, (blk_cell BK242.out 6).trans rfl, (blk_cell BK243.out 0).trans rfl, (blk_cell BK243.out 1).trans rfl, (blk_cell BK243.out 2).trans rfl, (blk_cell BK243.out 3).trans rfl, (blk_cell BK243.out 4).trans rfl, (blk_cell BK243.out 5).trans rfl, (blk_cell BK243.out 6).trans rfl⟩ (fun hHeld => ?_)
                    clear hK K
                    refine norm_ (a' := ?_) ?_ ?_
                    rotate_left
                    · show Act.put _ (some 52) _ = _
                      simp only [Act.put, List.setIfInBounds_toArray, List.set_cons_zero, List.set_cons_succ, i64_w, i32_w]
                      rfl
                    refine pure_ (i := 39) (N := some 53) (v := ?_) (a' := ?_) #[true, true, true, true, true, true, true, true, true, true, true, true, true, true, true, true, true, true, true, true, true, true, true, true, true, true, true, true, true, true, true, true, true, true, true, true, true, true, true, true, false, false, false, false, false, false, false, false] rfl rfl (any_of HT_.out (by kernel_rfl)) (fun _ _ _ h => h) (Or.inl ⟨by rfl, ?_⟩) ?_ ?_
                    rotate_left
                    · intro w'
                      go_simp
                      with_reducible rfl
                    rotate_left
                    · simp only [Act.put, List.setIfInBounds_toArray, List.set_cons_zero, List.set_cons_succ, i64_w, i32_w]
                      rfl
                    refine pure_ (i := 40) (N := some 54) (v := ?_) (a' := ?_) #[true, true, true, true, true, true, true, true, true, true, true, true, true, true, true, true, true, true, true, true, true, true, true, true, true, true, true, true, true, true, true, true, true, true, true, true, true, true, true, true, true, false, false, false, false, false, false, false] rfl rfl (any_of HT_.out (by kernel_rfl)) (fun _ _ _ h => h) (Or.inl ⟨by rfl, ?_⟩) ?_ ?_
                    rotate_left
                    · intro w'
                      go_simp
                      with_reducible rfl
                    rotate_left
                    · simp only [Act.put, List.setIfInBounds_toArray, List.set_cons_zero, List.set_cons_succ, i64_w, i32_w]
                      rfl
                    refine take_ (i := 41) (N := some 55) (v := ?_) (a' := ?_) #[true, true, true, true, true, true, true, true, true, true, true, true, true, true, true, true, true, true, true, true, true, true, true, true, true, true, true, true, true, true, true, true, true, true, true, true, true, true, true, true, true, true, false, false, false, false, false, false] rfl rfl (take_ofW HT_.out HW_.out (by kernel_rfl)) (fun _ _ _ h => h) (Or.inl ⟨by rfl, ?_⟩) hHeld ?_ ?_
                    rotate_left
                    · rintro w' ⟨s0, s1, s2, s3, s4, s5, s6, s7, s8, s9, s10, s11, s12, s13⟩
                      go_simp
                      with_reducible rfl
                    rotate_left
                    · simp only [Act.put, List.setIfInBounds_toArray, List.set_cons_zero, List.set_cons_succ, i64_w, i32_w]
                      rfl
                    refine take_ (i := 43) (N := some 57) (v := ?_) (a' := ?_) #[true, true, true, true, true, true, true, true, true, true, true, true, true, true, true, true, true, true, true, true, true, true, true, true, true, true, true, true, true, true, true, true, true, true, true, true, true, true, true, true, true, true, false, true, false, false, false, false] rfl rfl (take_ofW HT_.out HW_.out (by kernel_rfl)) (fun _ _ _ h => h) (Or.inl ⟨by rfl, ?_⟩) hHeld ?_ ?_
                    rotate_left
                    · rintro w' ⟨s0, s1, s2, s3, s4, s5, s6, s7, s8, s9, s10, s11, s12, s13⟩
                      go_simp
                      with_reducible rfl
                    rotate_left
                    · simp only [Act.put, List.setIfInBounds_toArray, List.set_cons_zero, List.set_cons_succ, i64_w, i32_w]
                      rfl
                    refine one_ (i := 42) (N := some 56) #[true, true, true, true, true, true, true, true, true, true, true, true, true, true, true, true, true, true, true, true, true, true, true, true, true, true, true, true, true, true, true, true, true, true, true, true, true, true, true, true, true, true, true, true, false, false, false, false] rfl rfl (one_of HT_.out (by kernel_rfl)) (by decide) (fun K hK => ?_)
                    refine goes_ Try.func24 (by kernel_rfl) rfl #[.agg #[.int .i64 a0_0, .string a0_1, .slice A0_2 l0_2.length c0_2, .bool a0_3, .bool a0_4, .slice A0_5 l0_5.length c0_5, .slice A0_6 l0_6.length c0_6]] (by rfl) rfl rfl (by (try simp only [List.map_toArray, List.map_cons, List.map_nil]); first | done | rfl | (simp only [List.length_drop, List.length_take]; rfl)) ?_
                    with_reducible refine (tree_Forced.calls a0_0 a0_1 _ _ l0_2 a0_3 a0_4 _ _ l0_5 _ _ l0_6 t268 _ ?side1 ?side2 ?side3 ?side4 ?side5 ?side6 A39.out).mono ?_
                    (case side1 => repeat (first | exact (Kd.C_below HR0_2.out (by repeat (first | (with_reducible first | exact HB.out | apply below_alloc | apply pw_below_drewN | apply below_drew1 | refine below_set ?_ GE242.out | refine below_set ?_ GE243.out) | exact HB.out))) | (with_reducible refine Kd.C_alloc ?_ _) | (with_reducible refine Kd.C_drewN ?_ _) | (with_reducible refine Kd.C_drew ?_)))
                    (case side2 => exact HC0_2.out)
                    (case side3 => repeat (first | exact (Kd.C_below HR0_5.out (by repeat (first | (with_reducible first | exact HB.out | apply below_alloc | apply pw_below_drewN | apply below_drew1 | refine below_set ?_ GE242.out | refine below_set ?_ GE243.out) | exact HB.out))) | (with_reducible refine Kd.C_alloc ?_ _) | (with_reducible refine Kd.C_drewN ?_ _) | (with_reducible refine Kd.C_drew ?_)))
                    (case side4 => exact HC0_5.out)
                    (case side5 => repeat (first | exact (Kd.C_below HR0_6.out (by repeat (first | (with_reducible first | exact HB.out | apply below_alloc | apply pw_below_drewN | apply below_drew1 | refine below_set ?_ GE242.out | refine below_set ?_ GE243.out) | exact HB.out))) | (with_reducible refine Kd.C_alloc ?_ _) | (with_reducible refine Kd.C_drewN ?_ _) | (with_reducible refine Kd.C_drew ?_)))
                    (case side6 => exact HC0_6.out)
                    rintro e w57 ⟨rfl, hb⟩
                    refine ⟨_, rfl, ?_⟩
                    have n0_ := Aside0.mk (Kd.R_below (by (with_reducible repeat (first | apply Kd.R_alloc | apply Kd.R_drewN | apply Kd.R_drew)); exact HO256.out) hb)
                    have n1_ := Aside0.mk (Kd.R_below (by (with_reducible repeat (first | apply Kd.R_alloc | apply Kd.R_drewN | apply Kd.R_drew)); exact HO259.out) hb)
                    have n2_ := Aside0.mk (Kd.R_below (by (with_reducible repeat (first | apply Kd.R_alloc | apply Kd.R_drewN | apply Kd.R_drew)); exact HO263.out) hb)
                    have n3_ := Aside0.mk (Kd.R_below (by (with_reducible repeat (first | apply Kd.R_alloc | apply Kd.R_drewN | apply Kd.R_drew)); exact HO266.out) hb)
                    have n4_ := Aside0.mk (blk_below (g := gb242) (o := .cells #[.int .i64 a0_0, .string a0_1, .slice A0_2 l0_2.length c0_2, .bool a0_3, .bool a0_4, .slice A0_5 l0_5.length c0_5, .slice A0_6 l0_6.length c0_6] 26 (0, 0)) (by (with_reducible repeat (first | refine blk_drewN ?_ _ | refine blk_drew ?_ | refine blk_alloc ?_ _)); exact BK242.out) hb)
                    have n5_ := Aside0.mk (blk_below (g := gb243) (o := .cells #[.int .i64 a1_0, .string a1_1, .slice A1_2 l1_2.length c1_2, .bool a1_3, .bool a1_4, .slice A1_5 l1_5.length c1_5, .slice A1_6 l1_6.length c1_6] 26 (0, 0)) (by (with_reducible repeat (first | refine blk_drewN ?_ _ | refine blk_drew ?_ | refine blk_alloc ?_ _)); exact BK243.out) hb)
                    have n6_ := Aside0.mk (below_step (by repeat (first | (with_reducible first | exact HB.out | apply below_alloc | apply pw_below_drewN | apply below_drew1 | refine below_set ?_ GE242.out | refine below_set ?_ GE243.out) | exact HB.out)) hb)
                    clear HO256
                    clear HO259
                    clear HO263
                    clear HO266
                    clear BK242
                    clear BK243
                    clear HB
                    have HO256 := n0_
                    have HO259 := n1_
                    have HO263 := n2_
                    have HO266 := n3_
                    have BK242 := n4_
                    have BK243 := n5_
                    have HB := n6_
                    clear n0_ n1_ n2_ n3_ n4_ n5_ n6_
                    (try clear hb)
                    (try clear hb2)
                    (try clear hk)
                    (try clear hi)
                    refine hK.out _ _ ⟨(blk_cell BK242.out 0).trans rfl, (blk_cell BK242.out 1).trans rfl, (blk_cell BK242.out 2).trans rfl, (blk_cell BK242.out 3).trans rfl, (blk_cell BK242.out 4).trans rfl, (blk_cell BK242.out 5).trans rfl, (blk_cell BK242.out 6).trans rfl, (blk_cell BK243.out 0).trans rfl, (blk_cell BK243.out 1).trans rfl, (blk_cell BK243.out 2).trans rfl, (blk_cell BK243.out 3).trans rfl, (blk_cell BK243.out 4).trans rfl, (blk_cell BK243.out 5).trans rfl, (blk_cell BK243.out 6).trans rfl⟩ (fun hHeld => ?_)
                    clear hK K
                    refine norm_ (a' := ?_) ?_ ?_
                    rotate_left
                    · show Act.put _ (some 56) _ = _
                      simp only [Act.put, List.setIfInBounds_toArray, List.set_cons_zero, List.set_cons_succ, i64_w, i32_w]
                      rfl
                    refine one_ (i := 44) (N := some 58) #[true, true, true, true, true, true, true, true, true, true, true, true, true, true, true, true, true, true, true, true, true, true, true, true, true, true, true, true, true, true, true, true, true, true, true, true, true, true, true, true, true, true, true, true, true, false, false, false] rfl rfl (one_of HT_.out (by kernel_rfl)) (by decide) (fun K hK => ?_)
                    refine goes_ Try.func25 (by kernel_rfl) rfl #[.agg #[.int .i64 a0_0, .string a0_1, .slice A0_2 l0_2.length c0_2, .bool a0_3, .bool a0_4, .slice A0_5 l0_5.length c0_5, .slice A0_6 l0_6.length c0_6]] (by rfl) rfl rfl (by (try simp only [List.map_toArray, List.map_cons, List.map_nil]); first | done | rfl | (simp only [List.length_drop, List.length_take]; rfl)) ?_
                    with_reducible refine (galleyref9_Forced.calls kj2 a0_0 a0_1 _ _ l0_2 a0_3 a0_4 _ _ l0_5 _ _ l0_6 t269 _ ?side1 ?side2 ?side3 ?side4 ?side5 ?side6 A40.out).mono ?_
                    (case side1 => repeat (first | exact (Kd.C_below HR0_2.out HB.out) | (with_reducible refine Kd.C_alloc ?_ _) | (with_reducible refine Kd.C_drewN ?_ _) | (with_reducible refine Kd.C_drew ?_)))
                    (case side2 => exact HC0_2.out)
                    (case side3 => repeat (first | exact (Kd.C_below HR0_5.out HB.out) | (with_reducible refine Kd.C_alloc ?_ _) | (with_reducible refine Kd.C_drewN ?_ _) | (with_reducible refine Kd.C_drew ?_)))
                    (case side4 => exact HC0_5.out)
                    (case side5 => repeat (first | exact (Kd.C_below HR0_6.out HB.out) | (with_reducible refine Kd.C_alloc ?_ _) | (with_reducible refine Kd.C_drewN ?_ _) | (with_reducible refine Kd.C_drew ?_)))
                    (case side6 => exact HC0_6.out)
                    rintro e w58 ⟨rfl, hb⟩
                    refine ⟨_, rfl, ?_⟩
                    have n0_ := Aside0.mk (Kd.R_below (by (with_reducible repeat (first | apply Kd.R_alloc | apply Kd.R_drewN | apply Kd.R_drew)); exact HO256.out) hb)
                    have n1_ := Aside0.mk (Kd.R_below (by (with_reducible repeat (first | apply Kd.R_alloc | apply Kd.R_drewN | apply Kd.R_drew)); exact HO259.out) hb)
                    have n2_ := Aside0.mk (Kd.R_below (by (with_reducible repeat (first | apply Kd.R_alloc | apply Kd.R_drewN | apply Kd.R_drew)); exact HO263.out) hb)
                    have n3_ := Aside0.mk (Kd.R_below (by (with_reducible repeat (first | apply Kd.R_alloc | apply Kd.R_drewN | apply Kd.R_drew)); exact HO266.out) hb)
                    have n4_ := Aside0.mk (blk_below (g := gb242) (o := .cells #[.int .i64 a0_0, .string a0_1, .slice A0_2 l0_2.length c0_2, .bool a0_3, .bool a0_4, .slice A0_5 l0_5.length c0_5, .slice A0_6 l0_6.length c0_6] 26 (0, 0)) (by (with_reducible repeat (first | refine blk_drewN ?_ _ | refine blk_drew ?_ | refine blk_alloc ?_ _)); exact BK242.out) hb)
                    have n5_ := Aside0.mk (blk_below (g := gb243) (o := .cells #[.int .i64 a1_0, .string a1_1, .slice A1_2 l1_2.length c1_2, .bool a1_3, .bool a1_4, .slice A1_5 l1_5.length c1_5, .slice A1_6 l1_6.length c1_6] 26 (0, 0)) (by (with_reducible repeat (first | refine blk_drewN ?_ _ | refine blk_drew ?_ | refine blk_alloc ?_ _)); exact BK243.out) hb)
                    have n6_ := Aside0.mk (below_step (by repeat (first | (with_reducible first | exact HB.out | apply below_alloc | apply pw_below_drewN | apply below_drew1 | refine below_set ?_ GE242.out | refine below_set ?_ GE243.out) | exact HB.out)) hb)
                    clear HO256
                    clear HO259
                    clear HO263
                    clear HO266
                    clear BK242
                    clear BK243
                    clear HB
                    have HO256 := n0_
                    have HO259 := n1_
                    have HO263 := n2_
                    have HO266 := n3_
                    have BK242 := n4_
                    have BK243 := n5_
                    have HB := n6_
                    clear n0_ n1_ n2_ n3_ n4_ n5_ n6_
                    (try clear hb)
                    (try clear hb2)
                    (try clear hk)
                    (try clear hi)
                    refine hK.out _ _ ⟨(blk_cell BK242.out 0).trans rfl, (blk_cell BK242.out 1).trans rfl, (blk_cell BK242.out 2).trans rfl, (blk_cell BK242.out 3).trans rfl, (blk_cell BK242.out 4).trans rfl, (blk_cell BK242.out 5).trans rfl, (blk_cell BK242.out 6).trans rfl, (blk_cell BK243.out 0).trans rfl, (blk_cell BK243.out 1).trans rfl, (blk_cell BK243.out 2).trans rfl, (blk_cell BK243.out 3).trans rfl, (blk_cell BK243.out 4).trans rfl, (blk_cell BK243.out 5).trans rfl, (blk_cell BK243.out 6).trans rfl⟩ (fun hHeld => ?_)
                    clear hK K
                    refine norm_ (a' := ?_) ?_ ?_
                    rotate_left
                    · show Act.put _ (some 58) _ = _
                      simp only [Act.put, List.setIfInBounds_toArray, List.set_cons_zero, List.set_cons_succ, i64_w, i32_w]
                      rfl
                    refine pure_ (i := 45) (N := some 59) (v := ?_) (a' := ?_) #[true, true, true, true, true, true, true, true, true, true, true, true, true, true, true, true, true, true, true, true, true, true, true, true, true, true, true, true, true, true, true, true, true, true, true, true, true, true, true, true, true, true, true, true, true, true, false, false] rfl rfl (any_of HT_.out (by kernel_rfl)) (fun _ _ _ h => h) (Or.inl ⟨by rfl, ?_⟩) ?_ ?_
                    rotate_left
                    · intro w'
                      go_simp
                      with_reducible rfl
                    rotate_left
                    · simp only [Act.put, List.setIfInBounds_toArray, List.set_cons_zero, List.set_cons_succ, i64_w, i32_w]
                      rfl
                    refine pure_ (i := 46) (N := some 60) (v := ?_) (a' := ?_) #[true, true, true, true, true, true, true, true, true, true, true, true, true, true, true, true, true, true, true, true, true, true, true, true, true, true, true, true, true, true, true, true, true, true, true, true, true, true, true, true, true, true, true, true, true, true, true, false] rfl rfl (any_of HT_.out (by kernel_rfl)) (fun _ _ _ h => h) (Or.inl ⟨by rfl, ?_⟩) ?_ ?_
                    rotate_left
                    · intro w'
                      go_simp
                      with_reducible rfl
                    rotate_left
                    · simp only [Act.put, List.setIfInBounds_toArray, List.set_cons_zero, List.set_cons_succ, i64_w, i32_w]
                      rfl
                    refine pure_ (i := 47) (N := some 4) (v := ?_) (a' := ?_) #[true, true, true, true, true, true, true, true, true, true, true, true, true, true, true, true, true, true, true, true, true, true, true, true, true, true, true, true, true, true, true, true, true, true, true, true, true, true, true, true, true, true, true, true, true, true, true, true] rfl rfl (any_of HT_.out (by kernel_rfl)) (fun _ _ _ h => h) (Or.inl ⟨by rfl, ?_⟩) ?_ ?_
                    rotate_left
                    · intro w'
                      go_simp
                      with_reducible rfl
                    rotate_left
                    · simp only [Act.put, List.setIfInBounds_toArray, List.set_cons_zero, List.set_cons_succ, i64_w, i32_w]
                      rfl
                    refine done_ (done_of HT_.out (by kernel_rfl)) ?_
                    try go_wp2
                    go_ret
                    exact ⟨by first | rfl | (simp [errW_none, errW_some] <;> rfl) | (simp [*, errW_none, errW_some] <;> rfl), by repeat (first | (with_reducible first | exact HB.out | apply below_alloc | apply pw_below_drewN | apply below_drew1 | refine below_set ?_ GE242.out | refine below_set ?_ GE243.out) | exact HB.out)⟩
                  · replace c38 := Bool.eq_false_iff.mpr c38
                    subst c38
                    have H1 : (some false) = some r := by rw [if_neg (show ¬ (false = true) by decide)] at H; exact H
                    clear H
                    have H := H1
                    clear H1
                    obtain rfl := Option.some.inj H
                    exact absurd HLAW.out (by decide)
                · replace c34 := Bool.eq_false_iff.mpr c34
                  subst c34
                  have H1 : (some false) = some r := by rw [if_neg (show ¬ (false = true) by decide)] at H; exact H
                  clear H
                  have H := H1
                  clear H1
                  obtain rfl := Option.some.inj H
                  exact absurd HLAW.out (by decide)
              · rw [if_neg c30] at H
                have c30b0 : (t252 == t253) = false := beq_eq_false_iff_ne.mpr c30
                have c30b1 : (t252 != t253) = true := bne_iff_ne.mpr c30
                obtain rfl := Option.some.inj H
                exact absurd HLAW.out (by decide)
            · rw [if_neg c27] at H
              have c27b0 : (t250 == t251) = false := by simpa using c27
              (try (have c27b1 : decide (t250 = t251) = false := by simpa using c27))
              (try (have c27b2 : (t250 == t251) = false := by simpa using c27))
              (try (have c27b3 : ¬ (t250 = t251) := by simpa using c27))
              clear c27
              obtain rfl := Option.some.inj H
              exact absurd HLAW.out (by decide)
          · rw [if_neg c24] at H
            have c24b0 : (t248 == t249) = false := by simpa using c24
            (try (have c24b1 : decide (t248 = t249) = false := by simpa using c24))
            (try (have c24b2 : (t248 == t249) = false := by simpa using c24))
            (try (have c24b3 : ¬ (t248 = t249) := by simpa using c24))
            clear c24
            obtain rfl := Option.some.inj H
            exact absurd HLAW.out (by decide)
        · replace c21 := Bool.eq_false_iff.mpr c21
          subst c21
          have H1 : (some false) = some r := by rw [if_neg (show ¬ (false = true) by decide)] at H; exact H
          clear H
          have H := H1
          clear H1
          obtain rfl := Option.some.inj H
          exact absurd HLAW.out (by decide)

end Go.Proofs.Ytjlnlonioknkhaa.PA

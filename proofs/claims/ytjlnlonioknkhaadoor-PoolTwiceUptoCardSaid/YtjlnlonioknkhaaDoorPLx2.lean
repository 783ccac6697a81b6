/- Printed by this session's driver of the kit's printer (stubbed functions are proved by hand). Lean checks it. -/
import Derived.Test.YtjlnlonioknkhaaDoorPLx0
import Derived.Test.YtjlnlonioknkhaaDoorPLx1
namespace Go.Proofs.YtjlnlonioknkhaaDoor.PL
open Go.RowKit Go.Proofs.YtjlnlonioknkhaaDoorW.PrintWords Go.Proofs.YtjlnlonioknkhaaDoorW.PrintLast Go.Proofs.YtjlnlonioknkhaaDoorW.PrintMore
attribute [local go_sem] max2_int min2_int max_two min_two max_three min_three max_four min_four   -- for this text's walks alone
set_option linter.unusedVariables false
set_option linter.unusedSimpArgs false

/-! ### galleyref9_like: function 18 -/
mutual
def galleyref9_like.j0 : Nat → Bool → Bool → Int → ByteArray → List (S32) → Bool → Bool → List ByteArray → List ByteArray → Int → ByteArray → List (S32) → Bool → Bool → List ByteArray → List ByteArray → Option (Bool)
  | 0, _, _, _, _, _, _, _, _, _, _, _, _, _, _, _, _ => none
  | k + 1, x2, x61, x109000, x109001, x109002, x109003, x109004, x109005, x109006, x110000, x110001, x110002, x110003, x110004, x110005, x110006 => if x61 = true then (some false) else (galleyref9_like.l0 k x2 0 x109000 x109001 x109002 x109003 x109004 x109005 x109006 x110000 x110001 x110002 x110003 x110004 x110005 x110006)
def galleyref9_like.l0 : Nat → Bool → Int → Int → ByteArray → List (S32) → Bool → Bool → List ByteArray → List ByteArray → Int → ByteArray → List (S32) → Bool → Bool → List ByteArray → List ByteArray → Option (Bool)
  | 0, _, _, _, _, _, _, _, _, _, _, _, _, _, _, _, _ => none
  | k + 1, x2, x7, x109000, x109001, x109002, x109003, x109004, x109005, x109006, x110000, x110001, x110002, x110003, x110004, x110005, x110006 => if x7 < (x109002.length : Int) then (if 0 ≤ x7 then (if x7 < (x110002.length : Int) then ((galleyref9_like.f k ((rd_T32 x109002 x7).f0) ((rd_T32 x109002 x7).f1) ((rd_T32 x109002 x7).f2) ((rd_T32 x109002 x7).f3) ((rd_T32 x109002 x7).f4) ((rd_T32 x109002 x7).f5) ((rd_T32 x109002 x7).f6) ((rd_T32 x110002 x7).f0) ((rd_T32 x110002 x7).f1) ((rd_T32 x110002 x7).f2) ((rd_T32 x110002 x7).f3) ((rd_T32 x110002 x7).f4) ((rd_T32 x110002 x7).f5) ((rd_T32 x110002 x7).f6) x2).bind fun t116 => (if t116 = true then (galleyref9_like.l0 k x2 (wrap64 (x7 + 1)) x109000 x109001 x109002 x109003 x109004 x109005 x109006 x110000 x110001 x110002 x110003 x110004 x110005 x110006) else (some false))) else (none)) else (none)) else (some true)
def galleyref9_like.f : Nat → Int → ByteArray → List (S32) → Bool → Bool → List ByteArray → List ByteArray → Int → ByteArray → List (S32) → Bool → Bool → List ByteArray → List ByteArray → Bool → Option (Bool)
  | 0, _, _, _, _, _, _, _, _, _, _, _, _, _, _, _ => none
  | k + 1, a0_0, a0_1, l0_2, a0_3, a0_4, l0_5, l0_6, a1_0, a1_1, l1_2, a1_3, a1_4, l1_5, l1_6, a2 => if a0_0 = a1_0 then (if a0_1.toList = a1_1.toList then (if (a0_4 != a1_4) = true then (galleyref9_like.j0 k a2 true a0_0 a0_1 l0_2 a0_3 a0_4 l0_5 l0_6 a1_0 a1_1 l1_2 a1_3 a1_4 l1_5 l1_6) else (if a2 = true then (if (a0_3 != a1_3) = true then (galleyref9_like.j0 k a2 true a0_0 a0_1 l0_2 a0_3 a0_4 l0_5 l0_6 a1_0 a1_1 l1_2 a1_3 a1_4 l1_5 l1_6) else ((galleyref9_texts.f k l0_5 l1_5).bind fun t110 => (if t110 = true then ((galleyref9_texts.f k l0_6 l1_6).bind fun t111 => (if t111 = true then (galleyref9_like.j0 k a2 ((l0_2.length : Int) != (l1_2.length : Int)) a0_0 a0_1 l0_2 a0_3 a0_4 l0_5 l0_6 a1_0 a1_1 l1_2 a1_3 a1_4 l1_5 l1_6) else (galleyref9_like.j0 k a2 true a0_0 a0_1 l0_2 a0_3 a0_4 l0_5 l0_6 a1_0 a1_1 l1_2 a1_3 a1_4 l1_5 l1_6))) else (galleyref9_like.j0 k a2 true a0_0 a0_1 l0_2 a0_3 a0_4 l0_5 l0_6 a1_0 a1_1 l1_2 a1_3 a1_4 l1_5 l1_6)))) else ((galleyref9_texts.f k l0_5 l1_5).bind fun t112 => (if t112 = true then ((galleyref9_texts.f k l0_6 l1_6).bind fun t113 => (if t113 = true then (galleyref9_like.j0 k a2 ((l0_2.length : Int) != (l1_2.length : Int)) a0_0 a0_1 l0_2 a0_3 a0_4 l0_5 l0_6 a1_0 a1_1 l1_2 a1_3 a1_4 l1_5 l1_6) else (galleyref9_like.j0 k a2 true a0_0 a0_1 l0_2 a0_3 a0_4 l0_5 l0_6 a1_0 a1_1 l1_2 a1_3 a1_4 l1_5 l1_6))) else (galleyref9_like.j0 k a2 true a0_0 a0_1 l0_2 a0_3 a0_4 l0_5 l0_6 a1_0 a1_1 l1_2 a1_3 a1_4 l1_5 l1_6))))) else (galleyref9_like.j0 k a2 true a0_0 a0_1 l0_2 a0_3 a0_4 l0_5 l0_6 a1_0 a1_1 l1_2 a1_3 a1_4 l1_5 l1_6)) else (galleyref9_like.j0 k a2 true a0_0 a0_1 l0_2 a0_3 a0_4 l0_5 l0_6 a1_0 a1_1 l1_2 a1_3 a1_4 l1_5 l1_6)
end
theorem galleyref9_like.mono_l : ∀ k, (∀ y0 y1 y2 y3 y4 y5 y6 y7 y8 y9 y10 y11 y12 y13 y14, LeO (galleyref9_like.f k y0 y1 y2 y3 y4 y5 y6 y7 y8 y9 y10 y11 y12 y13 y14) (galleyref9_like.f (k + 1) y0 y1 y2 y3 y4 y5 y6 y7 y8 y9 y10 y11 y12 y13 y14)) ∧ (∀ y0 y1 y2 y3 y4 y5 y6 y7 y8 y9 y10 y11 y12 y13 y14 y15, LeO (galleyref9_like.j0 k y0 y1 y2 y3 y4 y5 y6 y7 y8 y9 y10 y11 y12 y13 y14 y15) (galleyref9_like.j0 (k + 1) y0 y1 y2 y3 y4 y5 y6 y7 y8 y9 y10 y11 y12 y13 y14 y15)) ∧ (∀ y0 y1 y2 y3 y4 y5 y6 y7 y8 y9 y10 y11 y12 y13 y14 y15, LeO (galleyref9_like.l0 k y0 y1 y2 y3 y4 y5 y6 y7 y8 y9 y10 y11 y12 y13 y14 y15) (galleyref9_like.l0 (k + 1) y0 y1 y2 y3 y4 y5 y6 y7 y8 y9 y10 y11 y12 y13 y14 y15))
  | 0 => ⟨fun _ _ _ _ _ _ _ _ _ _ _ _ _ _ _ r h => by simp [galleyref9_like.f] at h, fun _ _ _ _ _ _ _ _ _ _ _ _ _ _ _ _ r h => by simp [galleyref9_like.j0] at h, fun _ _ _ _ _ _ _ _ _ _ _ _ _ _ _ _ r h => by simp [galleyref9_like.l0] at h⟩
  | k + 1 => by
    obtain ⟨ih0, ih1, ih2⟩ := galleyref9_like.mono_l k
    refine ⟨?_, ?_, ?_⟩
    · intro y0 y1 y2 y3 y4 y5 y6 y7 y8 y9 y10 y11 y12 y13 y14
      unfold galleyref9_like.f
      repeat' first
      | (with_reducible exact ih0 _ _ _ _ _ _ _ _ _ _ _ _ _ _ _)
      | (with_reducible exact ih1 _ _ _ _ _ _ _ _ _ _ _ _ _ _ _ _)
      | (with_reducible exact ih2 _ _ _ _ _ _ _ _ _ _ _ _ _ _ _ _)
      | (with_reducible exact galleyref9_texts.mono _ _ _)
      | (with_reducible exact LeO.refl _)
      | (with_reducible exact LeO.none _)
      | (with_reducible refine LeO.ite ?_ ?_)
      | (with_reducible refine LeO.bind ?_ (fun _ => ?_))
      | exact ih0 _ _ _ _ _ _ _ _ _ _ _ _ _ _ _
      | exact ih1 _ _ _ _ _ _ _ _ _ _ _ _ _ _ _ _
      | exact ih2 _ _ _ _ _ _ _ _ _ _ _ _ _ _ _ _
      | exact galleyref9_texts.mono _ _ _
      | exact LeO.none _
      | refine LeO.ite ?_ ?_
      | refine LeO.bind ?_ (fun _ => ?_)
    · intro y0 y1 y2 y3 y4 y5 y6 y7 y8 y9 y10 y11 y12 y13 y14 y15
      unfold galleyref9_like.j0
      repeat' first
      | (with_reducible exact ih0 _ _ _ _ _ _ _ _ _ _ _ _ _ _ _)
      | (with_reducible exact ih1 _ _ _ _ _ _ _ _ _ _ _ _ _ _ _ _)
      | (with_reducible exact ih2 _ _ _ _ _ _ _ _ _ _ _ _ _ _ _ _)
      | (with_reducible exact galleyref9_texts.mono _ _ _)
      | (with_reducible exact LeO.refl _)
      | (with_reducible exact LeO.none _)
      | (with_reducible refine LeO.ite ?_ ?_)
      | (with_reducible refine LeO.bind ?_ (fun _ => ?_))
      | exact ih0 _ _ _ _ _ _ _ _ _ _ _ _ _ _ _
      | exact ih1 _ _ _ _ _ _ _ _ _ _ _ _ _ _ _ _
      | exact ih2 _ _ _ _ _ _ _ _ _ _ _ _ _ _ _ _
      | exact galleyref9_texts.mono _ _ _
      | exact LeO.none _
      | refine LeO.ite ?_ ?_
      | refine LeO.bind ?_ (fun _ => ?_)
    · intro y0 y1 y2 y3 y4 y5 y6 y7 y8 y9 y10 y11 y12 y13 y14 y15
      unfold galleyref9_like.l0
      repeat' first
      | (with_reducible exact ih0 _ _ _ _ _ _ _ _ _ _ _ _ _ _ _)
      | (with_reducible exact ih1 _ _ _ _ _ _ _ _ _ _ _ _ _ _ _ _)
      | (with_reducible exact ih2 _ _ _ _ _ _ _ _ _ _ _ _ _ _ _ _)
      | (with_reducible exact galleyref9_texts.mono _ _ _)
      | (with_reducible exact LeO.refl _)
      | (with_reducible exact LeO.none _)
      | (with_reducible refine LeO.ite ?_ ?_)
      | (with_reducible refine LeO.bind ?_ (fun _ => ?_))
      | exact ih0 _ _ _ _ _ _ _ _ _ _ _ _ _ _ _
      | exact ih1 _ _ _ _ _ _ _ _ _ _ _ _ _ _ _ _
      | exact ih2 _ _ _ _ _ _ _ _ _ _ _ _ _ _ _ _
      | exact galleyref9_texts.mono _ _ _
      | exact LeO.none _
      | refine LeO.ite ?_ ?_
      | refine LeO.bind ?_ (fun _ => ?_)
theorem galleyref9_like.mono : ∀ a0 a1 a2 a3 a4 a5 a6 a7 a8 a9 a10 a11 a12 a13 a14 k, LeO (galleyref9_like.f k a0 a1 a2 a3 a4 a5 a6 a7 a8 a9 a10 a11 a12 a13 a14) (galleyref9_like.f (k + 1) a0 a1 a2 a3 a4 a5 a6 a7 a8 a9 a10 a11 a12 a13 a14) := by
  intro a0 a1 a2 a3 a4 a5 a6 a7 a8 a9 a10 a11 a12 a13 a14 k
  obtain ⟨ih0, ih1, ih2⟩ := galleyref9_like.mono_l k
  exact ih0 a0 a1 a2 a3 a4 a5 a6 a7 a8 a9 a10 a11 a12 a13 a14
def galleyref9_like.T6 : Bool × List (List Nat × List Nat) := (true, [([], []), ([0], [0]), ([], []), ([1, 2], [1, 2]), ([3], [3]), ([], []), ([5], [5]), ([], []), ([6, 7], [6, 7]), ([8], [8]), ([], []), ([4, 9, 10], [4, 9, 10]), ([11], [11])])
def galleyref9_like.B6 : List Nat := [0, 1, 0, 7, 15, 0, 32, 0, 224, 480, 0, 2047, 4095]
theorem galleyref9_like.tab6 : rtab .any (opsOf Tryd.f18 6) = galleyref9_like.T6 := by kernel_rfl
theorem galleyref9_like.bits6 : waitsOk galleyref9_like.T6.2 galleyref9_like.B6 = true := by kernel_rfl
set_option maxHeartbeats 8000000 in
set_option maxRecDepth 100000 in
theorem galleyref9_like.calls (k : Nat) : ∀ (a0_0 : Int) (a0_1 : ByteArray) (A0_2 : Option Addr) (c0_2 : Nat) (l0_2 : List (S32)) (a0_3 : Bool) (a0_4 : Bool) (A0_5 : Option Addr) (c0_5 : Nat) (l0_5 : List ByteArray) (A0_6 : Option Addr) (c0_6 : Nat) (l0_6 : List ByteArray) (a1_0 : Int) (a1_1 : ByteArray) (A1_2 : Option Addr) (c1_2 : Nat) (l1_2 : List (S32)) (a1_3 : Bool) (a1_4 : Bool) (A1_5 : Option Addr) (c1_5 : Nat) (l1_5 : List ByteArray) (A1_6 : Option Addr) (c1_6 : Nat) (l1_6 : List ByteArray) (a2 : Bool) (r : Bool) (w : World) (hr0_2 : Kd.C k32 w A0_2 l0_2.length l0_2) (hc0_2 : l0_2.length ≤ c0_2) (hr0_5 : Kd.C Kd.string w A0_5 l0_5.length l0_5) (hc0_5 : l0_5.length ≤ c0_5) (hr0_6 : Kd.C Kd.string w A0_6 l0_6.length l0_6) (hc0_6 : l0_6.length ≤ c0_6) (hr1_2 : Kd.C k32 w A1_2 l1_2.length l1_2) (hc1_2 : l1_2.length ≤ c1_2) (hr1_5 : Kd.C Kd.string w A1_5 l1_5.length l1_5) (hc1_5 : l1_5.length ≤ c1_5) (hr1_6 : Kd.C Kd.string w A1_6 l1_6.length l1_6) (hc1_6 : l1_6.length ≤ c1_6) (h : galleyref9_like.f k a0_0 a0_1 l0_2 a0_3 a0_4 l0_5 l0_6 a1_0 a1_1 l1_2 a1_3 a1_4 l1_5 l1_6 a2 = some r),
    Calls Tryd.prog 18 #[.agg #[.int .i64 a0_0, .string a0_1, .slice A0_2 l0_2.length c0_2, .bool a0_3, .bool a0_4, .slice A0_5 l0_5.length c0_5, .slice A0_6 l0_6.length c0_6], .agg #[.int .i64 a1_0, .string a1_1, .slice A1_2 l1_2.length c1_2, .bool a1_3, .bool a1_4, .slice A1_5 l1_5.length c1_5, .slice A1_6 l1_6.length c1_6], .bool a2] w fun e w' => e = .returned (.bool r) ∧ Below w.heap.size w w' := by
  induction k using Nat.strongRecOn with
  | _ k ih =>
  intro a0_0 a0_1 A0_2 c0_2 l0_2 a0_3 a0_4 A0_5 c0_5 l0_5 A0_6 c0_6 l0_6 a1_0 a1_1 A1_2 c1_2 l1_2 a1_3 a1_4 A1_5 c1_5 l1_5 A1_6 c1_6 l1_6 a2 r w hr0_2 hc0_2 hr0_5 hc0_5 hr0_6 hc0_6 hr1_2 hc1_2 hr1_5 hc1_5 hr1_6 hc1_6 h
  cases k with
  | zero => exact absurd h (by simp [galleyref9_like.f])
  | succ k =>
  simp only [galleyref9_like.f] at h
  have hu32 := Tryd.underlying32
  have HR0_2 := Aside0.mk hr0_2
  have HC0_2 := Aside0.mk hc0_2
  clear hr0_2 hc0_2
  have HR0_5 := Aside0.mk hr0_5
  have HC0_5 := Aside0.mk hc0_5
  clear hr0_5 hc0_5
  have HR0_6 := Aside0.mk hr0_6
  have HC0_6 := Aside0.mk hc0_6
  clear hr0_6 hc0_6
  have HR1_2 := Aside0.mk hr1_2
  have HC1_2 := Aside0.mk hc1_2
  clear hr1_2 hc1_2
  have HR1_5 := Aside0.mk hr1_5
  have HC1_5 := Aside0.mk hc1_5
  clear hr1_5 hc1_5
  have HR1_6 := Aside0.mk hr1_6
  have HC1_6 := Aside0.mk hc1_6
  clear hr1_6 hc1_6
  have HB := Aside0.mk (Below.refl w.heap.size w)
  have H : (if a0_0 = a1_0 then (if a0_1.toList = a1_1.toList then (if (a0_4 != a1_4) = true then (galleyref9_like.j0 k a2 true a0_0 a0_1 l0_2 a0_3 a0_4 l0_5 l0_6 a1_0 a1_1 l1_2 a1_3 a1_4 l1_5 l1_6) else (if a2 = true then (if (a0_3 != a1_3) = true then (galleyref9_like.j0 k a2 true a0_0 a0_1 l0_2 a0_3 a0_4 l0_5 l0_6 a1_0 a1_1 l1_2 a1_3 a1_4 l1_5 l1_6) else ((galleyref9_texts.f k l0_5 l1_5).bind fun t110 => (if t110 = true then ((galleyref9_texts.f k l0_6 l1_6).bind fun t111 => (if t111 = true then (galleyref9_like.j0 k a2 ((l0_2.length : Int) != (l1_2.length : Int)) a0_0 a0_1 l0_2 a0_3 a0_4 l0_5 l0_6 a1_0 a1_1 l1_2 a1_3 a1_4 l1_5 l1_6) else (galleyref9_like.j0 k a2 true a0_0 a0_1 l0_2 a0_3 a0_4 l0_5 l0_6 a1_0 a1_1 l1_2 a1_3 a1_4 l1_5 l1_6))) else (galleyref9_like.j0 k a2 true a0_0 a0_1 l0_2 a0_3 a0_4 l0_5 l0_6 a1_0 a1_1 l1_2 a1_3 a1_4 l1_5 l1_6)))) else ((galleyref9_texts.f k l0_5 l1_5).bind fun t112 => (if t112 = true then ((galleyref9_texts.f k l0_6 l1_6).bind fun t113 => (if t113 = true then (galleyref9_like.j0 k a2 ((l0_2.length : Int) != (l1_2.length : Int)) a0_0 a0_1 l0_2 a0_3 a0_4 l0_5 l0_6 a1_0 a1_1 l1_2 a1_3 a1_4 l1_5 l1_6) else (galleyref9_like.j0 k a2 true a0_0 a0_1 l0_2 a0_3 a0_4 l0_5 l0_6 a1_0 a1_1 l1_2 a1_3 a1_4 l1_5 l1_6))) else (galleyref9_like.j0 k a2 true a0_0 a0_1 l0_2 a0_3 a0_4 l0_5 l0_6 a1_0 a1_1 l1_2 a1_3 a1_4 l1_5 l1_6))))) else (galleyref9_like.j0 k a2 true a0_0 a0_1 l0_2 a0_3 a0_4 l0_5 l0_6 a1_0 a1_1 l1_2 a1_3 a1_4 l1_5 l1_6)) else (galleyref9_like.j0 k a2 true a0_0 a0_1 l0_2 a0_3 a0_4 l0_5 l0_6 a1_0 a1_1 l1_2 a1_3 a1_4 l1_5 l1_6)) = some r := h
  clear h
  have HC4 := Aside0.mk H
  clear H
  go_enter Tryd.func18, Tryd.ntmps18
  go_upto_region 1 with (first | ((with_reducible refine gate_dst (N := 3) rfl ?_); (try (refine gate_guard (by rfl) ?_; dsimp only)); refine box_event ?hg (N := 3) ?hd (cs := #[.int .i64 a0_0, .string a0_1, .slice A0_2 l0_2.length c0_2, .bool a0_3, .bool a0_4, .slice A0_5 l0_5.length c0_5, .slice A0_6 l0_6.length c0_6]) (t := 32) ?hr ?_; (case hd => rfl); (case hg => rfl); (case hr => first | (go_simp; done) | (go_simp; rfl)); intro gb108 hg w5 hbox hb; have n0_ := Aside0.mk (below_step (by repeat (first | (with_reducible first | exact HB.out | apply below_alloc | apply pw_below_drewN | apply below_drew1) | exact HB.out)) hb); have n1_ := Aside0.mk (hbox); have n2_ := Aside0.mk ((by rw [hg]; exact (below_size (by repeat (first | (with_reducible first | exact HB.out | apply below_alloc | apply pw_below_drewN | apply below_drew1) | exact HB.out))) : w.heap.size ≤ gb108)); have n3_ := Aside0.mk ((by rw [hg]; exact (below_size (by repeat (first | (with_reducible first | exact HB.out | apply below_alloc | apply pw_below_drewN | apply below_drew1) | exact HB.out))) : w.heap.size ≤ gb108)); clear HB; have HB := n0_; have BK108 := n1_; have GW108 := n2_; have GE108 := n3_; clear n0_ n1_ n2_ n3_; clear hb hbox hg) | ((with_reducible refine gate_dst (N := 4) rfl ?_); (try (refine gate_guard (by rfl) ?_; dsimp only)); refine box_event ?hg (N := 4) ?hd (cs := #[.int .i64 a1_0, .string a1_1, .slice A1_2 l1_2.length c1_2, .bool a1_3, .bool a1_4, .slice A1_5 l1_5.length c1_5, .slice A1_6 l1_6.length c1_6]) (t := 32) ?hr ?_; (case hd => rfl); (case hg => rfl); (case hr => first | (go_simp; done) | (go_simp; rfl)); intro gb109 hg w6 hbox hb; have n0_ := Aside0.mk (blk_below (g := gb108) (o := .cells #[.int .i64 a0_0, .string a0_1, .slice A0_2 l0_2.length c0_2, .bool a0_3, .bool a0_4, .slice A0_5 l0_5.length c0_5, .slice A0_6 l0_6.length c0_6] 32 (0, 0)) (by (with_reducible repeat (first | refine blk_drewN ?_ _ | refine blk_drew ?_ | refine blk_alloc ?_ _)); exact BK108.out) hb); have n1_ := Aside0.mk (below_step (by repeat (first | (with_reducible first | exact HB.out | apply below_alloc | apply pw_below_drewN | apply below_drew1 | refine below_set ?_ GE108.out) | exact HB.out)) hb); have n2_ := Aside0.mk (hbox); have n3_ := Aside0.mk ((by rw [hg]; exact (below_size (by repeat (first | (with_reducible first | exact HB.out | apply below_alloc | apply pw_below_drewN | apply below_drew1 | refine below_set ?_ GE108.out) | exact HB.out))) : w.heap.size ≤ gb109)); have n4_ := Aside0.mk ((by rw [hg]; exact (below_size (by repeat (first | (with_reducible first | exact HB.out | apply below_alloc | apply pw_below_drewN | apply below_drew1 | refine below_set ?_ GE108.out) | exact HB.out))) : w.heap.size ≤ gb109)); have n5_ := Aside0.mk ((by rw [hg]; exact Nat.ne_of_lt (blk_lt (g := gb108) (o := .cells #[.int .i64 a0_0, .string a0_1, .slice A0_2 l0_2.length c0_2, .bool a0_3, .bool a0_4, .slice A0_5 l0_5.length c0_5, .slice A0_6 l0_6.length c0_6] 32 (0, 0)) (by (with_reducible repeat (first | refine blk_drewN ?_ _ | refine blk_drew ?_ | refine blk_alloc ?_ _)); exact BK108.out)) : gb108 ≠ gb109)); have n6_ := Aside0.mk ((by rw [hg]; exact Nat.ne_of_gt (blk_lt (g := gb108) (o := .cells #[.int .i64 a0_0, .string a0_1, .slice A0_2 l0_2.length c0_2, .bool a0_3, .bool a0_4, .slice A0_5 l0_5.length c0_5, .slice A0_6 l0_6.length c0_6] 32 (0, 0)) (by (with_reducible repeat (first | refine blk_drewN ?_ _ | refine blk_drew ?_ | refine blk_alloc ?_ _)); exact BK108.out)) : gb109 ≠ gb108)); clear BK108; clear HB; have BK108 := n0_; have HB := n1_; have BK109 := n2_; have GW109 := n3_; have GE109 := n4_; have NB108_109 := n5_; have NB109_108 := n6_; clear n0_ n1_ n2_ n3_ n4_ n5_ n6_; clear hb hbox hg))
  (try simp only [Act.put, List.setIfInBounds_toArray, List.set_cons_zero, List.set_cons_succ])
  go_cut [61] (fun v61 wc => ∃ (kq : Nat) (x61_3 : Bool), v61 = .bool x61_3 ∧ Aside0 (galleyref9_like.j0 kq a2 x61_3 a0_0 a0_1 l0_2 a0_3 a0_4 l0_5 l0_6 a1_0 a1_1 l1_2 a1_3 a1_4 l1_5 l1_6 = some r) ∧ Aside0 (kq ≤ k) ∧ Aside0 (wc.heap[gb108]? = some (.cells #[.int .i64 a0_0, .string a0_1, (.slice A0_2 l0_2.length c0_2), .bool a0_3, .bool a0_4, (.slice A0_5 l0_5.length c0_5), (.slice A0_6 l0_6.length c0_6)] 32 (0, 0))) ∧ Aside0 (wc.heap[gb109]? = some (.cells #[.int .i64 a1_0, .string a1_1, (.slice A1_2 l1_2.length c1_2), .bool a1_3, .bool a1_4, (.slice A1_5 l1_5.length c1_5), (.slice A1_6 l1_6.length c1_6)] 32 (0, 0))) ∧ Aside0 (Below w.heap.size w wc))
  case first =>
    have H := HC4.out
    clear HC4
    by_cases c7 : a0_0 = a1_0
    · rw [if_pos c7] at H
      have c7b0 : (a0_0 == a1_0) = true := beq_iff_eq.mpr c7
      have c7b1 : (a0_0 != a1_0) = false := bne_eq_false_iff_eq.mpr c7
      clear c7
      (first | rw [c7b0] | (simp only [i64_w, i32_w]; rw [c7b0]) | skip)
      by_cases c8 : a0_1.toList = a1_1.toList
      · rw [if_pos c8] at H
        have c8b0 : (a0_1.toList == a1_1.toList) = true := beq_iff_eq.mpr c8
        have c8b1 : (a0_1.toList != a1_1.toList) = false := bne_eq_false_iff_eq.mpr c8
        clear c8
        by_cases c9 : (a0_4 != a1_4) = true
        · rw [if_pos c9] at H
          have c9b0 : (a0_4 != a1_4) = true := c9
          (try (have c9b1 : decide (a0_4 = a1_4) = false := by simpa using c9))
          (try (have c9b2 : (a0_4 == a1_4) = false := by simpa using c9))
          (try (have c9b3 : ¬ (a0_4 = a1_4) := by simpa using c9))
          clear c9
          have H' := Aside0.mk H
          clear H
          have hnb10 := NB108_109.out
          have hnc10 := NB109_108.out
          have hcz11_0 : w6.cell? ⟨gb108, 0, none⟩ = some (.int .i64 a0_0) := (blk_cell BK108.out 0).trans rfl
          have hcz11_1 : w6.cell? ⟨gb108, 1, none⟩ = some (.string a0_1) := (blk_cell BK108.out 1).trans rfl
          have hcz11_2 : w6.cell? ⟨gb108, 2, none⟩ = some (.slice A0_2 l0_2.length c0_2) := (blk_cell BK108.out 2).trans rfl
          have hcz11_3 : w6.cell? ⟨gb108, 3, none⟩ = some (.bool a0_3) := (blk_cell BK108.out 3).trans rfl
          have hcz11_4 : w6.cell? ⟨gb108, 4, none⟩ = some (.bool a0_4) := (blk_cell BK108.out 4).trans rfl
          have hcz11_5 : w6.cell? ⟨gb108, 5, none⟩ = some (.slice A0_5 l0_5.length c0_5) := (blk_cell BK108.out 5).trans rfl
          have hcz11_6 : w6.cell? ⟨gb108, 6, none⟩ = some (.slice A0_6 l0_6.length c0_6) := (blk_cell BK108.out 6).trans rfl
          have hfz11_0 := blk_frozen BK108.out 0
          have hfz11_1 := blk_frozen BK108.out 1
          have hfz11_2 := blk_frozen BK108.out 2
          have hfz11_3 := blk_frozen BK108.out 3
          have hfz11_4 := blk_frozen BK108.out 4
          have hfz11_5 := blk_frozen BK108.out 5
          have hfz11_6 := blk_frozen BK108.out 6
          have hcz12_0 : w6.cell? ⟨gb109, 0, none⟩ = some (.int .i64 a1_0) := (blk_cell BK109.out 0).trans rfl
          have hcz12_1 : w6.cell? ⟨gb109, 1, none⟩ = some (.string a1_1) := (blk_cell BK109.out 1).trans rfl
          have hcz12_2 : w6.cell? ⟨gb109, 2, none⟩ = some (.slice A1_2 l1_2.length c1_2) := (blk_cell BK109.out 2).trans rfl
          have hcz12_3 : w6.cell? ⟨gb109, 3, none⟩ = some (.bool a1_3) := (blk_cell BK109.out 3).trans rfl
          have hcz12_4 : w6.cell? ⟨gb109, 4, none⟩ = some (.bool a1_4) := (blk_cell BK109.out 4).trans rfl
          have hcz12_5 : w6.cell? ⟨gb109, 5, none⟩ = some (.slice A1_5 l1_5.length c1_5) := (blk_cell BK109.out 5).trans rfl
          have hcz12_6 : w6.cell? ⟨gb109, 6, none⟩ = some (.slice A1_6 l1_6.length c1_6) := (blk_cell BK109.out 6).trans rfl
          have hfz12_0 := blk_frozen BK109.out 0
          have hfz12_1 := blk_frozen BK109.out 1
          have hfz12_2 := blk_frozen BK109.out 2
          have hfz12_3 := blk_frozen BK109.out 3
          have hfz12_4 := blk_frozen BK109.out 4
          have hfz12_5 := blk_frozen BK109.out 5
          have hfz12_6 := blk_frozen BK109.out 6
          go_wp2
          go_meet
          case rel => exact ⟨_, (true), (by first | rfl | (simp; done) | (simp [*]; done)), H', ⟨by first | omega | exact Nat.le_refl _⟩, ⟨by (with_reducible repeat (first | refine blk_drewN ?_ _ | refine blk_drew ?_ | refine blk_alloc ?_ _)); exact BK108.out⟩, ⟨by (with_reducible repeat (first | refine blk_drewN ?_ _ | refine blk_drew ?_ | refine blk_alloc ?_ _)); exact BK109.out⟩, ⟨by repeat (first | (with_reducible first | exact HB.out | apply below_alloc | apply pw_below_drewN | apply below_drew1 | refine below_set ?_ GE108.out | refine below_set ?_ GE109.out) | exact HB.out)⟩⟩
        · rw [if_neg c9] at H
          have c9b0 : (a0_4 != a1_4) = false := by simpa using c9
          (try (have c9b1 : decide (a0_4 = a1_4) = true := by simpa using c9))
          (try (have c9b2 : (a0_4 == a1_4) = true := by simpa using c9))
          clear c9
          by_cases c13 : a2 = true
          · subst c13
            have H1 : (if (a0_3 != a1_3) = true then (galleyref9_like.j0 k true true a0_0 a0_1 l0_2 a0_3 a0_4 l0_5 l0_6 a1_0 a1_1 l1_2 a1_3 a1_4 l1_5 l1_6) else ((galleyref9_texts.f k l0_5 l1_5).bind fun t110 => (if t110 = true then ((galleyref9_texts.f k l0_6 l1_6).bind fun t111 => (if t111 = true then (galleyref9_like.j0 k true ((l0_2.length : Int) != (l1_2.length : Int)) a0_0 a0_1 l0_2 a0_3 a0_4 l0_5 l0_6 a1_0 a1_1 l1_2 a1_3 a1_4 l1_5 l1_6) else (galleyref9_like.j0 k true true a0_0 a0_1 l0_2 a0_3 a0_4 l0_5 l0_6 a1_0 a1_1 l1_2 a1_3 a1_4 l1_5 l1_6))) else (galleyref9_like.j0 k true true a0_0 a0_1 l0_2 a0_3 a0_4 l0_5 l0_6 a1_0 a1_1 l1_2 a1_3 a1_4 l1_5 l1_6)))) = some r := by rw [if_pos rfl] at H; exact H
            clear H
            have H := H1
            clear H1
            by_cases c14 : (a0_3 != a1_3) = true
            · rw [if_pos c14] at H
              have c14b0 : (a0_3 != a1_3) = true := c14
              (try (have c14b1 : decide (a0_3 = a1_3) = false := by simpa using c14))
              (try (have c14b2 : (a0_3 == a1_3) = false := by simpa using c14))
              (try (have c14b3 : ¬ (a0_3 = a1_3) := by simpa using c14))
              clear c14
              have H' := Aside0.mk H
              clear H
              have hnb15 := NB108_109.out
              have hnc15 := NB109_108.out
              have hcz16_0 : w6.cell? ⟨gb108, 0, none⟩ = some (.int .i64 a0_0) := (blk_cell BK108.out 0).trans rfl
              have hcz16_1 : w6.cell? ⟨gb108, 1, none⟩ = some (.string a0_1) := (blk_cell BK108.out 1).trans rfl
              have hcz16_2 : w6.cell? ⟨gb108, 2, none⟩ = some (.slice A0_2 l0_2.length c0_2) := (blk_cell BK108.out 2).trans rfl
              have hcz16_3 : w6.cell? ⟨gb108, 3, none⟩ = some (.bool a0_3) := (blk_cell BK108.out 3).trans rfl
              have hcz16_4 : w6.cell? ⟨gb108, 4, none⟩ = some (.bool a0_4) := (blk_cell BK108.out 4).trans rfl
              have hcz16_5 : w6.cell? ⟨gb108, 5, none⟩ = some (.slice A0_5 l0_5.length c0_5) := (blk_cell BK108.out 5).trans rfl
              have hcz16_6 : w6.cell? ⟨gb108, 6, none⟩ = some (.slice A0_6 l0_6.length c0_6) := (blk_cell BK108.out 6).trans rfl
              have hfz16_0 := blk_frozen BK108.out 0
              have hfz16_1 := blk_frozen BK108.out 1
              have hfz16_2 := blk_frozen BK108.out 2
              have hfz16_3 := blk_frozen BK108.out 3
              have hfz16_4 := blk_frozen BK108.out 4
              have hfz16_5 := blk_frozen BK108.out 5
              have hfz16_6 := blk_frozen BK108.out 6
              have hcz17_0 : w6.cell? ⟨gb109, 0, none⟩ = some (.int .i64 a1_0) := (blk_cell BK109.out 0).trans rfl
              have hcz17_1 : w6.cell? ⟨gb109, 1, none⟩ = some (.string a1_1) := (blk_cell BK109.out 1).trans rfl
              have hcz17_2 : w6.cell? ⟨gb109, 2, none⟩ = some (.slice A1_2 l1_2.length c1_2) := (blk_cell BK109.out 2).trans rfl
              have hcz17_3 : w6.cell? ⟨gb109, 3, none⟩ = some (.bool a1_3) := (blk_cell BK109.out 3).trans rfl
              have hcz17_4 : w6.cell? ⟨gb109, 4, none⟩ = some (.bool a1_4) := (blk_cell BK109.out 4).trans rfl
              have hcz17_5 : w6.cell? ⟨gb109, 5, none⟩ = some (.slice A1_5 l1_5.length c1_5) := (blk_cell BK109.out 5).trans rfl
              have hcz17_6 : w6.cell? ⟨gb109, 6, none⟩ = some (.slice A1_6 l1_6.length c1_6) := (blk_cell BK109.out 6).trans rfl
              have hfz17_0 := blk_frozen BK109.out 0
              have hfz17_1 := blk_frozen BK109.out 1
              have hfz17_2 := blk_frozen BK109.out 2
              have hfz17_3 := blk_frozen BK109.out 3
              have hfz17_4 := blk_frozen BK109.out 4
              have hfz17_5 := blk_frozen BK109.out 5
              have hfz17_6 := blk_frozen BK109.out 6
              go_wp2
              go_meet
              case rel => exact ⟨_, (true), (by first | rfl | (simp; done) | (simp [*]; done)), H', ⟨by first | omega | exact Nat.le_refl _⟩, ⟨by (with_reducible repeat (first | refine blk_drewN ?_ _ | refine blk_drew ?_ | refine blk_alloc ?_ _)); exact BK108.out⟩, ⟨by (with_reducible repeat (first | refine blk_drewN ?_ _ | refine blk_drew ?_ | refine blk_alloc ?_ _)); exact BK109.out⟩, ⟨by repeat (first | (with_reducible first | exact HB.out | apply below_alloc | apply pw_below_drewN | apply below_drew1 | refine below_set ?_ GE108.out | refine below_set ?_ GE109.out) | exact HB.out)⟩⟩
            · rw [if_neg c14] at H
              have c14b0 : (a0_3 != a1_3) = false := by simpa using c14
              (try (have c14b1 : decide (a0_3 = a1_3) = true := by simpa using c14))
              (try (have c14b2 : (a0_3 == a1_3) = true := by simpa using c14))
              clear c14
              replace H := Option.bind_eq_some_iff.mp H
              obtain ⟨t110, A180, H⟩ := H
              replace H : (if t110 = true then ((galleyref9_texts.f k l0_6 l1_6).bind fun t111 => (if t111 = true then (galleyref9_like.j0 k true ((l0_2.length : Int) != (l1_2.length : Int)) a0_0 a0_1 l0_2 a0_3 a0_4 l0_5 l0_6 a1_0 a1_1 l1_2 a1_3 a1_4 l1_5 l1_6) else (galleyref9_like.j0 k true true a0_0 a0_1 l0_2 a0_3 a0_4 l0_5 l0_6 a1_0 a1_1 l1_2 a1_3 a1_4 l1_5 l1_6))) else (galleyref9_like.j0 k true true a0_0 a0_1 l0_2 a0_3 a0_4 l0_5 l0_6 a1_0 a1_1 l1_2 a1_3 a1_4 l1_5 l1_6)) = some r := H
              have A18 := Aside0.mk A180
              clear A180
              by_cases c19 : t110 = true
              · subst c19
                have H1 : ((galleyref9_texts.f k l0_6 l1_6).bind fun t111 => (if t111 = true then (galleyref9_like.j0 k true ((l0_2.length : Int) != (l1_2.length : Int)) a0_0 a0_1 l0_2 a0_3 a0_4 l0_5 l0_6 a1_0 a1_1 l1_2 a1_3 a1_4 l1_5 l1_6) else (galleyref9_like.j0 k true true a0_0 a0_1 l0_2 a0_3 a0_4 l0_5 l0_6 a1_0 a1_1 l1_2 a1_3 a1_4 l1_5 l1_6))) = some r := by rw [if_pos rfl] at H; exact H
                clear H
                have H := H1
                clear H1
                replace H := Option.bind_eq_some_iff.mp H
                obtain ⟨t111, A200, H⟩ := H
                replace H : (if t111 = true then (galleyref9_like.j0 k true ((l0_2.length : Int) != (l1_2.length : Int)) a0_0 a0_1 l0_2 a0_3 a0_4 l0_5 l0_6 a1_0 a1_1 l1_2 a1_3 a1_4 l1_5 l1_6) else (galleyref9_like.j0 k true true a0_0 a0_1 l0_2 a0_3 a0_4 l0_5 l0_6 a1_0 a1_1 l1_2 a1_3 a1_4 l1_5 l1_6)) = some r := H
                have A20 := Aside0.mk A200
                clear A200
                by_cases c21 : t111 = true
                · subst c21
                  have H1 : (galleyref9_like.j0 k true ((l0_2.length : Int) != (l1_2.length : Int)) a0_0 a0_1 l0_2 a0_3 a0_4 l0_5 l0_6 a1_0 a1_1 l1_2 a1_3 a1_4 l1_5 l1_6) = some r := by rw [if_pos rfl] at H; exact H
                  clear H
                  have H := H1
                  clear H1
                  have H' := Aside0.mk H
                  clear H
                  have hnb22 := NB108_109.out
                  have hnc22 := NB109_108.out
                  have hcz23_0 : w6.cell? ⟨gb108, 0, none⟩ = some (.int .i64 a0_0) := (blk_cell BK108.out 0).trans rfl
                  have hcz23_1 : w6.cell? ⟨gb108, 1, none⟩ = some (.string a0_1) := (blk_cell BK108.out 1).trans rfl
                  have hcz23_2 : w6.cell? ⟨gb108, 2, none⟩ = some (.slice A0_2 l0_2.length c0_2) := (blk_cell BK108.out 2).trans rfl
                  have hcz23_3 : w6.cell? ⟨gb108, 3, none⟩ = some (.bool a0_3) := (blk_cell BK108.out 3).trans rfl
                  have hcz23_4 : w6.cell? ⟨gb108, 4, none⟩ = some (.bool a0_4) := (blk_cell BK108.out 4).trans rfl
                  have hcz23_5 : w6.cell? ⟨gb108, 5, none⟩ = some (.slice A0_5 l0_5.length c0_5) := (blk_cell BK108.out 5).trans rfl
                  have hcz23_6 : w6.cell? ⟨gb108, 6, none⟩ = some (.slice A0_6 l0_6.length c0_6) := (blk_cell BK108.out 6).trans rfl
                  have hfz23_0 := blk_frozen BK108.out 0
                  have hfz23_1 := blk_frozen BK108.out 1
                  have hfz23_2 := blk_frozen BK108.out 2
                  have hfz23_3 := blk_frozen BK108.out 3
                  have hfz23_4 := blk_frozen BK108.out 4
                  have hfz23_5 := blk_frozen BK108.out 5
                  have hfz23_6 := blk_frozen BK108.out 6
                  have hcz24_0 : w6.cell? ⟨gb109, 0, none⟩ = some (.int .i64 a1_0) := (blk_cell BK109.out 0).trans rfl
                  have hcz24_1 : w6.cell? ⟨gb109, 1, none⟩ = some (.string a1_1) := (blk_cell BK109.out 1).trans rfl
                  have hcz24_2 : w6.cell? ⟨gb109, 2, none⟩ = some (.slice A1_2 l1_2.length c1_2) := (blk_cell BK109.out 2).trans rfl
                  have hcz24_3 : w6.cell? ⟨gb109, 3, none⟩ = some (.bool a1_3) := (blk_cell BK109.out 3).trans rfl
                  have hcz24_4 : w6.cell? ⟨gb109, 4, none⟩ = some (.bool a1_4) := (blk_cell BK109.out 4).trans rfl
                  have hcz24_5 : w6.cell? ⟨gb109, 5, none⟩ = some (.slice A1_5 l1_5.length c1_5) := (blk_cell BK109.out 5).trans rfl
                  have hcz24_6 : w6.cell? ⟨gb109, 6, none⟩ = some (.slice A1_6 l1_6.length c1_6) := (blk_cell BK109.out 6).trans rfl
                  have hfz24_0 := blk_frozen BK109.out 0
                  have hfz24_1 := blk_frozen BK109.out 1
                  have hfz24_2 := blk_frozen BK109.out 2
                  have hfz24_3 := blk_frozen BK109.out 3
                  have hfz24_4 := blk_frozen BK109.out 4
                  have hfz24_5 := blk_frozen BK109.out 5
                  have hfz24_6 := blk_frozen BK109.out 6
                  go_wp2_with (first | (go_at_call 20; (with_reducible refine (galleyref9_texts.calls k _ _ l0_5 _ _ l1_5 true _ ?side1 ?side2 ?side3 ?side4 A18.out).mono ?_); (case side1 => repeat (first | exact (Kd.C_below HR0_5.out HB.out) | (with_reducible refine Kd.C_alloc ?_ _) | (with_reducible refine Kd.C_drewN ?_ _) | (with_reducible refine Kd.C_drew ?_))); (case side2 => exact HC0_5.out); (case side3 => repeat (first | exact (Kd.C_below HR1_5.out HB.out) | (with_reducible refine Kd.C_alloc ?_ _) | (with_reducible refine Kd.C_drewN ?_ _) | (with_reducible refine Kd.C_drew ?_))); (case side4 => exact HC1_5.out); rintro e w' ⟨rfl, ⟨nd, rfl⟩⟩) | (go_at_call 20; (with_reducible refine (galleyref9_texts.calls k _ _ l0_6 _ _ l1_6 true _ ?side1 ?side2 ?side3 ?side4 A20.out).mono ?_); (case side1 => repeat (first | exact (Kd.C_below HR0_6.out (by repeat (first | (with_reducible first | exact HB.out | apply below_alloc | apply pw_below_drewN | apply below_drew1 | refine below_set ?_ GE108.out | refine below_set ?_ GE109.out) | exact HB.out))) | (with_reducible refine Kd.C_alloc ?_ _) | (with_reducible refine Kd.C_drewN ?_ _) | (with_reducible refine Kd.C_drew ?_))); (case side2 => exact HC0_6.out); (case side3 => repeat (first | exact (Kd.C_below HR1_6.out (by repeat (first | (with_reducible first | exact HB.out | apply below_alloc | apply pw_below_drewN | apply below_drew1 | refine below_set ?_ GE108.out | refine below_set ?_ GE109.out) | exact HB.out))) | (with_reducible refine Kd.C_alloc ?_ _) | (with_reducible refine Kd.C_drewN ?_ _) | (with_reducible refine Kd.C_drew ?_))); (case side4 => exact HC1_6.out); rintro e w' ⟨rfl, ⟨nd, rfl⟩⟩))
                  go_meet
                  case rel => exact ⟨_, (((l0_2.length : Int) != (l1_2.length : Int))), (by first | rfl | (simp; done) | (simp [*]; done)), H', ⟨by first | omega | exact Nat.le_refl _⟩, ⟨by (with_reducible repeat (first | refine blk_drewN ?_ _ | refine blk_drew ?_ | refine blk_alloc ?_ _)); exact BK108.out⟩, ⟨by (with_reducible repeat (first | refine blk_drewN ?_ _ | refine blk_drew ?_ | refine blk_alloc ?_ _)); exact BK109.out⟩, ⟨by repeat (first | (with_reducible first | exact HB.out | apply below_alloc | apply pw_below_drewN | apply below_drew1 | refine below_set ?_ GE108.out | refine below_set ?_ GE109.out) | exact HB.out)⟩⟩
                · replace c21 := Bool.eq_false_iff.mpr c21
                  subst c21
                  have H1 : (galleyref9_like.j0 k true true a0_0 a0_1 l0_2 a0_3 a0_4 l0_5 l0_6 a1_0 a1_1 l1_2 a1_3 a1_4 l1_5 l1_6) = some r := by rw [if_neg (show ¬ (false = true) by decide)] at H; exact H
                  clear H
                  have H := H1
                  clear H1
                  have H' := Aside0.mk H
                  clear H
                  have hnb25 := NB108_109.out
                  have hnc25 := NB109_108.out
                  have hcz26_0 : w6.cell? ⟨gb108, 0, none⟩ = some (.int .i64 a0_0) := (blk_cell BK108.out 0).trans rfl
                  have hcz26_1 : w6.cell? ⟨gb108, 1, none⟩ = some (.string a0_1) := (blk_cell BK108.out 1).trans rfl
                  have hcz26_2 : w6.cell? ⟨gb108, 2, none⟩ = some (.slice A0_2 l0_2.length c0_2) := (blk_cell BK108.out 2).trans rfl
                  have hcz26_3 : w6.cell? ⟨gb108, 3, none⟩ = some (.bool a0_3) := (blk_cell BK108.out 3).trans rfl
                  have hcz26_4 : w6.cell? ⟨gb108, 4, none⟩ = some (.bool a0_4) := (blk_cell BK108.out 4).trans rfl
                  have hcz26_5 : w6.cell? ⟨gb108, 5, none⟩ = some (.slice A0_5 l0_5.length c0_5) := (blk_cell BK108.out 5).trans rfl
                  have hcz26_6 : w6.cell? ⟨gb108, 6, none⟩ = some (.slice A0_6 l0_6.length c0_6) := (blk_cell BK108.out 6).trans rfl
                  have hfz26_0 := blk_frozen BK108.out 0
                  have hfz26_1 := blk_frozen BK108.out 1
                  have hfz26_2 := blk_frozen BK108.out 2
                  have hfz26_3 := blk_frozen BK108.out 3
                  have hfz26_4 := blk_frozen BK108.out 4
                  have hfz26_5 := blk_frozen BK108.out 5
                  have hfz26_6 := blk_frozen BK108.out 6
                  have hcz27_0 : w6.cell? ⟨gb109, 0, none⟩ = some (.int .i64 a1_0) := (blk_cell BK109.out 0).trans rfl
                  have hcz27_1 : w6.cell? ⟨gb109, 1, none⟩ = some (.string a1_1) := (blk_cell BK109.out 1).trans rfl
                  have hcz27_2 : w6.cell? ⟨gb109, 2, none⟩ = some (.slice A1_2 l1_2.length c1_2) := (blk_cell BK109.out 2).trans rfl
                  have hcz27_3 : w6.cell? ⟨gb109, 3, none⟩ = some (.bool a1_3) := (blk_cell BK109.out 3).trans rfl
                  have hcz27_4 : w6.cell? ⟨gb109, 4, none⟩ = some (.bool a1_4) := (blk_cell BK109.out 4).trans rfl
                  have hcz27_5 : w6.cell? ⟨gb109, 5, none⟩ = some (.slice A1_5 l1_5.length c1_5) := (blk_cell BK109.out 5).trans rfl
                  have hcz27_6 : w6.cell? ⟨gb109, 6, none⟩ = some (.slice A1_6 l1_6.length c1_6) := (blk_cell BK109.out 6).trans rfl
                  have hfz27_0 := blk_frozen BK109.out 0
                  have hfz27_1 := blk_frozen BK109.out 1
                  have hfz27_2 := blk_frozen BK109.out 2
                  have hfz27_3 := blk_frozen BK109.out 3
                  have hfz27_4 := blk_frozen BK109.out 4
                  have hfz27_5 := blk_frozen BK109.out 5
                  have hfz27_6 := blk_frozen BK109.out 6
                  go_wp2_with (first | (go_at_call 20; (with_reducible refine (galleyref9_texts.calls k _ _ l0_5 _ _ l1_5 true _ ?side1 ?side2 ?side3 ?side4 A18.out).mono ?_); (case side1 => repeat (first | exact (Kd.C_below HR0_5.out HB.out) | (with_reducible refine Kd.C_alloc ?_ _) | (with_reducible refine Kd.C_drewN ?_ _) | (with_reducible refine Kd.C_drew ?_))); (case side2 => exact HC0_5.out); (case side3 => repeat (first | exact (Kd.C_below HR1_5.out HB.out) | (with_reducible refine Kd.C_alloc ?_ _) | (with_reducible refine Kd.C_drewN ?_ _) | (with_reducible refine Kd.C_drew ?_))); (case side4 => exact HC1_5.out); rintro e w' ⟨rfl, ⟨nd, rfl⟩⟩) | (go_at_call 20; (with_reducible refine (galleyref9_texts.calls k _ _ l0_6 _ _ l1_6 false _ ?side1 ?side2 ?side3 ?side4 A20.out).mono ?_); (case side1 => repeat (first | exact (Kd.C_below HR0_6.out (by repeat (first | (with_reducible first | exact HB.out | apply below_alloc | apply pw_below_drewN | apply below_drew1 | refine below_set ?_ GE108.out | refine below_set ?_ GE109.out) | exact HB.out))) | (with_reducible refine Kd.C_alloc ?_ _) | (with_reducible refine Kd.C_drewN ?_ _) | (with_reducible refine Kd.C_drew ?_))); (case side2 => exact HC0_6.out); (case side3 => repeat (first | exact (Kd.C_below HR1_6.out (by repeat (first | (with_reducible first | exact HB.out | apply below_alloc | apply pw_below_drewN | apply below_drew1 | refine below_set ?_ GE108.out | refine below_set ?_ GE109.out) | exact HB.out))) | (with_reducible refine Kd.C_alloc ?_ _) | (with_reducible refine Kd.C_drewN ?_ _) | (with_reducible refine Kd.C_drew ?_))); (case side4 => exact HC1_6.out); rintro e w' ⟨rfl, ⟨nd, rfl⟩⟩))
                  go_meet
                  case rel => exact ⟨_, (true), (by first | rfl | (simp; done) | (simp [*]; done)), H', ⟨by first | omega | exact Nat.le_refl _⟩, ⟨by (with_reducible repeat (first | refine blk_drewN ?_ _ | refine blk_drew ?_ | refine blk_alloc ?_ _)); exact BK108.out⟩, ⟨by (with_reducible repeat (first | refine blk_drewN ?_ _ | refine blk_drew ?_ | refine blk_alloc ?_ _)); exact BK109.out⟩, ⟨by repeat (first | (with_reducible first | exact HB.out | apply below_alloc | apply pw_below_drewN | apply below_drew1 | refine below_set ?_ GE108.out | refine below_set ?_ GE109.out) | exact HB.out)⟩⟩
              · replace c19 := Bool.eq_false_iff.mpr c19
                subst c19
                have H1 : (galleyref9_like.j0 k true true a0_0 a0_1 l0_2 a0_3 a0_4 l0_5 l0_6 a1_0 a1_1 l1_2 a1_3 a1_4 l1_5 l1_6) = some r := by rw [if_neg (show ¬ (false = true) by decide)] at H; exact H
                clear H
                have H := H1
                clear H1
                have H' := Aside0.mk H
                clear H
                have hnb28 := NB108_109.out
                have hnc28 := NB109_108.out
                have hcz29_0 : w6.cell? ⟨gb108, 0, none⟩ = some (.int .i64 a0_0) := (blk_cell BK108.out 0).trans rfl
                have hcz29_1 : w6.cell? ⟨gb108, 1, none⟩ = some (.string a0_1) := (blk_cell BK108.out 1).trans rfl
                have hcz29_2 : w6.cell? ⟨gb108, 2, none⟩ = some (.slice A0_2 l0_2.length c0_2) := (blk_cell BK108.out 2).trans rfl
                have hcz29_3 : w6.cell? ⟨gb108, 3, none⟩ = some (.bool a0_3) := (blk_cell BK108.out 3).trans rfl
                have hcz29_4 : w6.cell? ⟨gb108, 4, none⟩ = some (.bool a0_4) := (blk_cell BK108.out 4).trans rfl
                have hcz29_5 : w6.cell? ⟨gb108, 5, none⟩ = some (.slice A0_5 l0_5.length c0_5) := (blk_cell BK108.out 5).trans rfl
                have hcz29_6 : w6.cell? ⟨gb108, 6, none⟩ = some (.slice A0_6 l0_6.length c0_6) := (blk_cell BK108.out 6).trans rfl
                have hfz29_0 := blk_frozen BK108.out 0
                have hfz29_1 := blk_frozen BK108.out 1
                have hfz29_2 := blk_frozen BK108.out 2
                have hfz29_3 := blk_frozen BK108.out 3
                have hfz29_4 := blk_frozen BK108.out 4
                have hfz29_5 := blk_frozen BK108.out 5
                have hfz29_6 := blk_frozen BK108.out 6
                have hcz30_0 : w6.cell? ⟨gb109, 0, none⟩ = some (.int .i64 a1_0) := (blk_cell BK109.out 0).trans rfl
                have hcz30_1 : w6.cell? ⟨gb109, 1, none⟩ = some (.string a1_1) := (blk_cell BK109.out 1).trans rfl
                have hcz30_2 : w6.cell? ⟨gb109, 2, none⟩ = some (.slice A1_2 l1_2.length c1_2) := (blk_cell BK109.out 2).trans rfl
                have hcz30_3 : w6.cell? ⟨gb109, 3, none⟩ = some (.bool a1_3) := (blk_cell BK109.out 3).trans rfl
                have hcz30_4 : w6.cell? ⟨gb109, 4, none⟩ = some (.bool a1_4) := (blk_cell BK109.out 4).trans rfl
                have hcz30_5 : w6.cell? ⟨gb109, 5, none⟩ = some (.slice A1_5 l1_5.length c1_5) := (blk_cell BK109.out 5).trans rfl
                have hcz30_6 : w6.cell? ⟨gb109, 6, none⟩ = some (.slice A1_6 l1_6.length c1_6) := (blk_cell BK109.out 6).trans rfl
                have hfz30_0 := blk_frozen BK109.out 0
                have hfz30_1 := blk_frozen BK109.out 1
                have hfz30_2 := blk_frozen BK109.out 2
                have hfz30_3 := blk_frozen BK109.out 3
                have hfz30_4 := blk_frozen BK109.out 4
                have hfz30_5 := blk_frozen BK109.out 5
                have hfz30_6 := blk_frozen BK109.out 6
                go_wp2_with (first | (go_at_call 20; (with_reducible refine (galleyref9_texts.calls k _ _ l0_5 _ _ l1_5 false _ ?side1 ?side2 ?side3 ?side4 A18.out).mono ?_); (case side1 => repeat (first | exact (Kd.C_below HR0_5.out HB.out) | (with_reducible refine Kd.C_alloc ?_ _) | (with_reducible refine Kd.C_drewN ?_ _) | (with_reducible refine Kd.C_drew ?_))); (case side2 => exact HC0_5.out); (case side3 => repeat (first | exact (Kd.C_below HR1_5.out HB.out) | (with_reducible refine Kd.C_alloc ?_ _) | (with_reducible refine Kd.C_drewN ?_ _) | (with_reducible refine Kd.C_drew ?_))); (case side4 => exact HC1_5.out); rintro e w' ⟨rfl, ⟨nd, rfl⟩⟩))
                go_meet
                case rel => exact ⟨_, (true), (by first | rfl | (simp; done) | (simp [*]; done)), H', ⟨by first | omega | exact Nat.le_refl _⟩, ⟨by (with_reducible repeat (first | refine blk_drewN ?_ _ | refine blk_drew ?_ | refine blk_alloc ?_ _)); exact BK108.out⟩, ⟨by (with_reducible repeat (first | refine blk_drewN ?_ _ | refine blk_drew ?_ | refine blk_alloc ?_ _)); exact BK109.out⟩, ⟨by repeat (first | (with_reducible first | exact HB.out | apply below_alloc | apply pw_below_drewN | apply below_drew1 | refine below_set ?_ GE108.out | refine below_set ?_ GE109.out) | exact HB.out)⟩⟩
          · replace c13 := Bool.eq_false_iff.mpr c13
            subst c13
            have H1 : ((galleyref9_texts.f k l0_5 l1_5).bind fun t112 => (if t112 = true then ((galleyref9_texts.f k l0_6 l1_6).bind fun t113 => (if t113 = true then (galleyref9_like.j0 k false ((l0_2.length : Int) != (l1_2.length : Int)) a0_0 a0_1 l0_2 a0_3 a0_4 l0_5 l0_6 a1_0 a1_1 l1_2 a1_3 a1_4 l1_5 l1_6) else (galleyref9_like.j0 k false true a0_0 a0_1 l0_2 a0_3 a0_4 l0_5 l0_6 a1_0 a1_1 l1_2 a1_3 a1_4 l1_5 l1_6))) else (galleyref9_like.j0 k false true a0_0 a0_1 l0_2 a0_3 a0_4 l0_5 l0_6 a1_0 a1_1 l1_2 a1_3 a1_4 l1_5 l1_6))) = some r := by rw [if_neg (show ¬ (false = true) by decide)] at H; exact H
            clear H
            have H := H1
            clear H1
            replace H := Option.bind_eq_some_iff.mp H
            obtain ⟨t112, A310, H⟩ := H
            replace H : (if t112 = true then ((galleyref9_texts.f k l0_6 l1_6).bind fun t113 => (if t113 = true then (galleyref9_like.j0 k false ((l0_2.length : Int) != (l1_2.length : Int)) a0_0 a0_1 l0_2 a0_3 a0_4 l0_5 l0_6 a1_0 a1_1 l1_2 a1_3 a1_4 l1_5 l1_6) else (galleyref9_like.j0 k false true a0_0 a0_1 l0_2 a0_3 a0_4 l0_5 l0_6 a1_0 a1_1 l1_2 a1_3 a1_4 l1_5 l1_6))) else (galleyref9_like.j0 k false true a0_0 a0_1 l0_2 a0_3 a0_4 l0_5 l0_6 a1_0 a1_1 l1_2 a1_3 a1_4 l1_5 l1_6)) = some r := H
            have A31 := Aside0.mk A310
            clear A310
            by_cases c32 : t112 = true
            · subst c32
              have H1 : ((galleyref9_texts.f k l0_6 l1_6).bind fun t113 => (if t113 = true then (galleyref9_like.j0 k false ((l0_2.length : Int) != (l1_2.length : Int)) a0_0 a0_1 l0_2 a0_3 a0_4 l0_5 l0_6 a1_0 a1_1 l1_2 a1_3 a1_4 l1_5 l1_6) else (galleyref9_like.j0 k false true a0_0 a0_1 l0_2 a0_3 a0_4 l0_5 l0_6 a1_0 a1_1 l1_2 a1_3 a1_4 l1_5 l1_6))) = some r := by rw [if_pos rfl] at H; exact H
              clear H
              have H := H1
              clear H1
              replace H := Option.bind_eq_some_iff.mp H
              obtain ⟨t113, A330, H⟩ := H
              replace H : (if t113 = true then (galleyref9_like.j0 k false ((l0_2.length : Int) != (l1_2.length : Int)) a0_0 a0_1 l0_2 a0_3 a0_4 l0_5 l0_6 a1_0 a1_1 l1_2 a1_3 a1_4 l1_5 l1_6) else (galleyref9_like.j0 k false true a0_0 a0_1 l0_2 a0_3 a0_4 l0_5 l0_6 a1_0 a1_1 l1_2 a1_3 a1_4 l1_5 l1_6)) = some r := H
              have A33 := Aside0.mk A330
              clear A330
              by_cases c34 : t113 = true
              · subst c34
                have H1 : (galleyref9_like.j0 k false ((l0_2.length : Int) != (l1_2.length : Int)) a0_0 a0_1 l0_2 a0_3 a0_4 l0_5 l0_6 a1_0 a1_1 l1_2 a1_3 a1_4 l1_5 l1_6) = some r := by rw [if_pos rfl] at H; exact H
                clear H
                have H := H1
                clear H1
                have H' := Aside0.mk H
                clear H
                have hnb35 := NB108_109.out
                have hnc35 := NB109_108.out
                have hcz36_0 : w6.cell? ⟨gb108, 0, none⟩ = some (.int .i64 a0_0) := (blk_cell BK108.out 0).trans rfl
                have hcz36_1 : w6.cell? ⟨gb108, 1, none⟩ = some (.string a0_1) := (blk_cell BK108.out 1).trans rfl
                have hcz36_2 : w6.cell? ⟨gb108, 2, none⟩ = some (.slice A0_2 l0_2.length c0_2) := (blk_cell BK108.out 2).trans rfl
                have hcz36_3 : w6.cell? ⟨gb108, 3, none⟩ = some (.bool a0_3) := (blk_cell BK108.out 3).trans rfl
                have hcz36_4 : w6.cell? ⟨gb108, 4, none⟩ = some (.bool a0_4) := (blk_cell BK108.out 4).trans rfl
                have hcz36_5 : w6.cell? ⟨gb108, 5, none⟩ = some (.slice A0_5 l0_5.length c0_5) := (blk_cell BK108.out 5).trans rfl
                have hcz36_6 : w6.cell? ⟨gb108, 6, none⟩ = some (.slice A0_6 l0_6.length c0_6) := (blk_cell BK108.out 6).trans rfl
                have hfz36_0 := blk_frozen BK108.out 0
                have hfz36_1 := blk_frozen BK108.out 1
                have hfz36_2 := blk_frozen BK108.out 2
                have hfz36_3 := blk_frozen BK108.out 3
                have hfz36_4 := blk_frozen BK108.out 4
                have hfz36_5 := blk_frozen BK108.out 5
                have hfz36_6 := blk_frozen BK108.out 6
                have hcz37_0 : w6.cell? ⟨gb109, 0, none⟩ = some (.int .i64 a1_0) := (blk_cell BK109.out 0).trans rfl
                have hcz37_1 : w6.cell? ⟨gb109, 1, none⟩ = some (.string a1_1) := (blk_cell BK109.out 1).trans rfl
                have hcz37_2 : w6.cell? ⟨gb109, 2, none⟩ = some (.slice A1_2 l1_2.length c1_2) := (blk_cell BK109.out 2).trans rfl
                have hcz37_3 : w6.cell? ⟨gb109, 3, none⟩ = some (.bool a1_3) := (blk_cell BK109.out 3).trans rfl
                have hcz37_4 : w6.cell? ⟨gb109, 4, none⟩ = some (.bool a1_4) := (blk_cell BK109.out 4).trans rfl
                have hcz37_5 : w6.cell? ⟨gb109, 5, none⟩ = some (.slice A1_5 l1_5.length c1_5) := (blk_cell BK109.out 5).trans rfl
                have hcz37_6 : w6.cell? ⟨gb109, 6, none⟩ = some (.slice A1_6 l1_6.length c1_6) := (blk_cell BK109.out 6).trans rfl
                have hfz37_0 := blk_frozen BK109.out 0
                have hfz37_1 := blk_frozen BK109.out 1
                have hfz37_2 := blk_frozen BK109.out 2
                have hfz37_3 := blk_frozen BK109.out 3
                have hfz37_4 := blk_frozen BK109.out 4
                have hfz37_5 := blk_frozen BK109.out 5
                have hfz37_6 := blk_frozen BK109.out 6
                go_wp2_with (first | (go_at_call 20; (with_reducible refine (galleyref9_texts.calls k _ _ l0_5 _ _ l1_5 true _ ?side1 ?side2 ?side3 ?side4 A31.out).mono ?_); (case side1 => repeat (first | exact (Kd.C_below HR0_5.out HB.out) | (with_reducible refine Kd.C_alloc ?_ _) | (with_reducible refine Kd.C_drewN ?_ _) | (with_reducible refine Kd.C_drew ?_))); (case side2 => exact HC0_5.out); (case side3 => repeat (first | exact (Kd.C_below HR1_5.out HB.out) | (with_reducible refine Kd.C_alloc ?_ _) | (with_reducible refine Kd.C_drewN ?_ _) | (with_reducible refine Kd.C_drew ?_))); (case side4 => exact HC1_5.out); rintro e w' ⟨rfl, ⟨nd, rfl⟩⟩) | (go_at_call 20; (with_reducible refine (galleyref9_texts.calls k _ _ l0_6 _ _ l1_6 true _ ?side1 ?side2 ?side3 ?side4 A33.out).mono ?_); (case side1 => repeat (first | exact (Kd.C_below HR0_6.out (by repeat (first | (with_reducible first | exact HB.out | apply below_alloc | apply pw_below_drewN | apply below_drew1 | refine below_set ?_ GE108.out | refine below_set ?_ GE109.out) | exact HB.out))) | (with_reducible refine Kd.C_alloc ?_ _) | (with_reducible refine Kd.C_drewN ?_ _) | (with_reducible refine Kd.C_drew ?_))); (case side2 => exact HC0_6.out); (case side3 => repeat (first | exact (Kd.C_below HR1_6.out (by repeat (first | (with_reducible first | exact HB.out | apply below_alloc | apply pw_below_drewN | apply below_drew1 | refine below_set ?_ GE108.out | refine below_set ?_ GE109.out) | exact HB.out))) | (with_reducible refine Kd.C_alloc ?_ _) | (with_reducible refine Kd.C_drewN ?_ _) | (with_reducible refine Kd.C_drew ?_))); (case side4 => exact HC1_6.out); rintro e w' ⟨rfl, ⟨nd, rfl⟩⟩))
                go_meet
                case rel => exact ⟨_, (((l0_2.length : Int) != (l1_2.length : Int))), (by first | rfl | (simp; done) | (simp [*]; done)), H', ⟨by first | omega | exact Nat.le_refl _⟩, ⟨by (with_reducible repeat (first | refine blk_drewN ?_ _ | refine blk_drew ?_ | refine blk_alloc ?_ _)); exact BK108.out⟩, ⟨by (with_reducible repeat (first | refine blk_drewN ?_ _ | refine blk_drew ?_ | refine blk_alloc ?_ _)); exact BK109.out⟩, ⟨by repeat (first | (with_reducible first | exact HB.out | apply below_alloc | apply pw_below_drewN | apply below_drew1 | refine below_set ?_ GE108.out | refine below_set ?_ GE109.out) | exact HB.out)⟩⟩
              · replace c34 := Bool.eq_false_iff.mpr c34
                subst c34
                have H1 : (galleyref9_like.j0 k false true a0_0 a0_1 l0_2 a0_3 a0_4 l0_5 l0_6 a1_0 a1_1 l1_2 a1_3 a1_4 l1_5 l1_6) = some r := by rw [if_neg (show ¬ (false = true) by decide)] at H; exact H
                clear H
                have H := H1
                clear H1
                have H' := Aside0.mk H
                clear H
                have hnb38 := NB108_109.out
                have hnc38 := NB109_108.out
                have hcz39_0 : w6.cell? ⟨gb108, 0, none⟩ = some (.int .i64 a0_0) := (blk_cell BK108.out 0).trans rfl
                have hcz39_1 : w6.cell? ⟨gb108, 1, none⟩ = some (.string a0_1) := (blk_cell BK108.out 1).trans rfl
                have hcz39_2 : w6.cell? ⟨gb108, 2, none⟩ = some (.slice A0_2 l0_2.length c0_2) := (blk_cell BK108.out 2).trans rfl
                have hcz39_3 : w6.cell? ⟨gb108, 3, none⟩ = some (.bool a0_3) := (blk_cell BK108.out 3).trans rfl
                have hcz39_4 : w6.cell? ⟨gb108, 4, none⟩ = some (.bool a0_4) := (blk_cell BK108.out 4).trans rfl
                have hcz39_5 : w6.cell? ⟨gb108, 5, none⟩ = some (.slice A0_5 l0_5.length c0_5) := (blk_cell BK108.out 5).trans rfl
                have hcz39_6 : w6.cell? ⟨gb108, 6, none⟩ = some (.slice A0_6 l0_6.length c0_6) := (blk_cell BK108.out 6).trans rfl
                have hfz39_0 := blk_frozen BK108.out 0
                have hfz39_1 := blk_frozen BK108.out 1
                have hfz39_2 := blk_frozen BK108.out 2
                have hfz39_3 := blk_frozen BK108.out 3
                have hfz39_4 := blk_frozen BK108.out 4
                have hfz39_5 := blk_frozen BK108.out 5
                have hfz39_6 := blk_frozen BK108.out 6
                have hcz40_0 : w6.cell? ⟨gb109, 0, none⟩ = some (.int .i64 a1_0) := (blk_cell BK109.out 0).trans rfl
                have hcz40_1 : w6.cell? ⟨gb109, 1, none⟩ = some (.string a1_1) := (blk_cell BK109.out 1).trans rfl
                have hcz40_2 : w6.cell? ⟨gb109, 2, none⟩ = some (.slice A1_2 l1_2.length c1_2) := (blk_cell BK109.out 2).trans rfl
                have hcz40_3 : w6.cell? ⟨gb109, 3, none⟩ = some (.bool a1_3) := (blk_cell BK109.out 3).trans rfl
                have hcz40_4 : w6.cell? ⟨gb109, 4, none⟩ = some (.bool a1_4) := (blk_cell BK109.out 4).trans rfl
                have hcz40_5 : w6.cell? ⟨gb109, 5, none⟩ = some (.slice A1_5 l1_5.length c1_5) := (blk_cell BK109.out 5).trans rfl
                have hcz40_6 : w6.cell? ⟨gb109, 6, none⟩ = some (.slice A1_6 l1_6.length c1_6) := (blk_cell BK109.out 6).trans rfl
                have hfz40_0 := blk_frozen BK109.out 0
                have hfz40_1 := blk_frozen BK109.out 1
                have hfz40_2 := blk_frozen BK109.out 2
                have hfz40_3 := blk_frozen BK109.out 3
                have hfz40_4 := blk_frozen BK109.out 4
                have hfz40_5 := blk_frozen BK109.out 5
                have hfz40_6 := blk_frozen BK109.out 6
                go_wp2_with (first | (go_at_call 20; (with_reducible refine (galleyref9_texts.calls k _ _ l0_5 _ _ l1_5 true _ ?side1 ?side2 ?side3 ?side4 A31.out).mono ?_); (case side1 => repeat (first | exact (Kd.C_below HR0_5.out HB.out) | (with_reducible refine Kd.C_alloc ?_ _) | (with_reducible refine Kd.C_drewN ?_ _) | (with_reducible refine Kd.C_drew ?_))); (case side2 => exact HC0_5.out); (case side3 => repeat (first | exact (Kd.C_below HR1_5.out HB.out) | (with_reducible refine Kd.C_alloc ?_ _) | (with_reducible refine Kd.C_drewN ?_ _) | (with_reducible refine Kd.C_drew ?_))); (case side4 => exact HC1_5.out); rintro e w' ⟨rfl, ⟨nd, rfl⟩⟩) | (go_at_call 20; (with_reducible refine (galleyref9_texts.calls k _ _ l0_6 _ _ l1_6 false _ ?side1 ?side2 ?side3 ?side4 A33.out).mono ?_); (case side1 => repeat (first | exact (Kd.C_below HR0_6.out (by repeat (first | (with_reducible first | exact HB.out | apply below_alloc | apply pw_below_drewN | apply below_drew1 | refine below_set ?_ GE108.out | refine below_set ?_ GE109.out) | exact HB.out))) | (with_reducible refine Kd.C_alloc ?_ _) | (with_reducible refine Kd.C_drewN ?_ _) | (with_reducible refine Kd.C_drew ?_))); (case side2 => exact HC0_6.out); (case side3 => repeat (first | exact (Kd.C_below HR1_6.out (by repeat (first | (with_reducible first | exact HB.out | apply below_alloc | apply pw_below_drewN | apply below_drew1 | refine below_set ?_ GE108.out | refine below_set ?_ GE109.out) | exact HB.out))) | (with_reducible refine Kd.C_alloc ?_ _) | (with_reducible refine Kd.C_drewN ?_ _) | (with_reducible refine Kd.C_drew ?_))); (case side4 => exact HC1_6.out); rintro e w' ⟨rfl, ⟨nd, rfl⟩⟩))
                go_meet
                case rel => exact ⟨_, (true), (by first | rfl | (simp; done) | (simp [*]; done)), H', ⟨by first | omega | exact Nat.le_refl _⟩, ⟨by (with_reducible repeat (first | refine blk_drewN ?_ _ | refine blk_drew ?_ | refine blk_alloc ?_ _)); exact BK108.out⟩, ⟨by (with_reducible repeat (first | refine blk_drewN ?_ _ | refine blk_drew ?_ | refine blk_alloc ?_ _)); exact BK109.out⟩, ⟨by repeat (first | (with_reducible first | exact HB.out | apply below_alloc | apply pw_below_drewN | apply below_drew1 | refine below_set ?_ GE108.out | refine below_set ?_ GE109.out) | exact HB.out)⟩⟩
            · replace c32 := Bool.eq_false_iff.mpr c32
              subst c32
              have H1 : (galleyref9_like.j0 k false true a0_0 a0_1 l0_2 a0_3 a0_4 l0_5 l0_6 a1_0 a1_1 l1_2 a1_3 a1_4 l1_5 l1_6) = some r := by rw [if_neg (show ¬ (false = true) by decide)] at H; exact H
              clear H
              have H := H1
              clear H1
              have H' := Aside0.mk H
              clear H
              have hnb41 := NB108_109.out
              have hnc41 := NB109_108.out
              have hcz42_0 : w6.cell? ⟨gb108, 0, none⟩ = some (.int .i64 a0_0) := (blk_cell BK108.out 0).trans rfl
              have hcz42_1 : w6.cell? ⟨gb108, 1, none⟩ = some (.string a0_1) := (blk_cell BK108.out 1).trans rfl
              have hcz42_2 : w6.cell? ⟨gb108, 2, none⟩ = some (.slice A0_2 l0_2.length c0_2) := (blk_cell BK108.out 2).trans rfl
              have hcz42_3 : w6.cell? ⟨gb108, 3, none⟩ = some (.bool a0_3) := (blk_cell BK108.out 3).trans rfl
              have hcz42_4 : w6.cell? ⟨gb108, 4, none⟩ = some (.bool a0_4) := (blk_cell BK108.out 4).trans rfl
              have hcz42_5 : w6.cell? ⟨gb108, 5, none⟩ = some (.slice A0_5 l0_5.length c0_5) := (blk_cell BK108.out 5).trans rfl
              have hcz42_6 : w6.cell? ⟨gb108, 6, none⟩ = some (.slice A0_6 l0_6.length c0_6) := (blk_cell BK108.out 6).trans rfl
              have hfz42_0 := blk_frozen BK108.out 0
              have hfz42_1 := blk_frozen BK108.out 1
              have hfz42_2 := blk_frozen BK108.out 2
              have hfz42_3 := blk_frozen BK108.out 3
              have hfz42_4 := blk_frozen BK108.out 4
              have hfz42_5 := blk_frozen BK108.out 5
              have hfz42_6 := blk_frozen BK108.out 6
              have hcz43_0 : w6.cell? ⟨gb109, 0, none⟩ = some (.int .i64 a1_0) := (blk_cell BK109.out 0).trans rfl
              have hcz43_1 : w6.cell? ⟨gb109, 1, none⟩ = some (.string a1_1) := (blk_cell BK109.out 1).trans rfl
              have hcz43_2 : w6.cell? ⟨gb109, 2, none⟩ = some (.slice A1_2 l1_2.length c1_2) := (blk_cell BK109.out 2).trans rfl
              have hcz43_3 : w6.cell? ⟨gb109, 3, none⟩ = some (.bool a1_3) := (blk_cell BK109.out 3).trans rfl
              have hcz43_4 : w6.cell? ⟨gb109, 4, none⟩ = some (.bool a1_4) := (blk_cell BK109.out 4).trans rfl
              have hcz43_5 : w6.cell? ⟨gb109, 5, none⟩ = some (.slice A1_5 l1_5.length c1_5) := (blk_cell BK109.out 5).trans rfl
              have hcz43_6 : w6.cell? ⟨gb109, 6, none⟩ = some (.slice A1_6 l1_6.length c1_6) := (blk_cell BK109.out 6).trans rfl
              have hfz43_0 := blk_frozen BK109.out 0
              have hfz43_1 := blk_frozen BK109.out 1
              have hfz43_2 := blk_frozen BK109.out 2
              have hfz43_3 := blk_frozen BK109.out 3
              have hfz43_4 := blk_frozen BK109.out 4
              have hfz43_5 := blk_frozen BK109.out 5
              have hfz43_6 := blk_frozen BK109.out 6
              go_wp2_with (first | (go_at_call 20; (with_reducible refine (galleyref9_texts.calls k _ _ l0_5 _ _ l1_5 false _ ?side1 ?side2 ?side3 ?side4 A31.out).mono ?_); (case side1 => repeat (first | exact (Kd.C_below HR0_5.out HB.out) | (with_reducible refine Kd.C_alloc ?_ _) | (with_reducible refine Kd.C_drewN ?_ _) | (with_reducible refine Kd.C_drew ?_))); (case side2 => exact HC0_5.out); (case side3 => repeat (first | exact (Kd.C_below HR1_5.out HB.out) | (with_reducible refine Kd.C_alloc ?_ _) | (with_reducible refine Kd.C_drewN ?_ _) | (with_reducible refine Kd.C_drew ?_))); (case side4 => exact HC1_5.out); rintro e w' ⟨rfl, ⟨nd, rfl⟩⟩))
              go_meet
              case rel => exact ⟨_, (true), (by first | rfl | (simp; done) | (simp [*]; done)), H', ⟨by first | omega | exact Nat.le_refl _⟩, ⟨by (with_reducible repeat (first | refine blk_drewN ?_ _ | refine blk_drew ?_ | refine blk_alloc ?_ _)); exact BK108.out⟩, ⟨by (with_reducible repeat (first | refine blk_drewN ?_ _ | refine blk_drew ?_ | refine blk_alloc ?_ _)); exact BK109.out⟩, ⟨by repeat (first | (with_reducible first | exact HB.out | apply below_alloc | apply pw_below_drewN | apply below_drew1 | refine below_set ?_ GE108.out | refine below_set ?_ GE109.out) | exact HB.out)⟩⟩
      · rw [if_neg c8] at H
        have c8b0 : (a0_1.toList == a1_1.toList) = false := beq_eq_false_iff_ne.mpr c8
        have c8b1 : (a0_1.toList != a1_1.toList) = true := bne_iff_ne.mpr c8
        have H' := Aside0.mk H
        clear H
        have hnb44 := NB108_109.out
        have hnc44 := NB109_108.out
        have hcz45_0 : w6.cell? ⟨gb108, 0, none⟩ = some (.int .i64 a0_0) := (blk_cell BK108.out 0).trans rfl
        have hcz45_1 : w6.cell? ⟨gb108, 1, none⟩ = some (.string a0_1) := (blk_cell BK108.out 1).trans rfl
        have hcz45_2 : w6.cell? ⟨gb108, 2, none⟩ = some (.slice A0_2 l0_2.length c0_2) := (blk_cell BK108.out 2).trans rfl
        have hcz45_3 : w6.cell? ⟨gb108, 3, none⟩ = some (.bool a0_3) := (blk_cell BK108.out 3).trans rfl
        have hcz45_4 : w6.cell? ⟨gb108, 4, none⟩ = some (.bool a0_4) := (blk_cell BK108.out 4).trans rfl
        have hcz45_5 : w6.cell? ⟨gb108, 5, none⟩ = some (.slice A0_5 l0_5.length c0_5) := (blk_cell BK108.out 5).trans rfl
        have hcz45_6 : w6.cell? ⟨gb108, 6, none⟩ = some (.slice A0_6 l0_6.length c0_6) := (blk_cell BK108.out 6).trans rfl
        have hfz45_0 := blk_frozen BK108.out 0
        have hfz45_1 := blk_frozen BK108.out 1
        have hfz45_2 := blk_frozen BK108.out 2
        have hfz45_3 := blk_frozen BK108.out 3
        have hfz45_4 := blk_frozen BK108.out 4
        have hfz45_5 := blk_frozen BK108.out 5
        have hfz45_6 := blk_frozen BK108.out 6
        have hcz46_0 : w6.cell? ⟨gb109, 0, none⟩ = some (.int .i64 a1_0) := (blk_cell BK109.out 0).trans rfl
        have hcz46_1 : w6.cell? ⟨gb109, 1, none⟩ = some (.string a1_1) := (blk_cell BK109.out 1).trans rfl
        have hcz46_2 : w6.cell? ⟨gb109, 2, none⟩ = some (.slice A1_2 l1_2.length c1_2) := (blk_cell BK109.out 2).trans rfl
        have hcz46_3 : w6.cell? ⟨gb109, 3, none⟩ = some (.bool a1_3) := (blk_cell BK109.out 3).trans rfl
        have hcz46_4 : w6.cell? ⟨gb109, 4, none⟩ = some (.bool a1_4) := (blk_cell BK109.out 4).trans rfl
        have hcz46_5 : w6.cell? ⟨gb109, 5, none⟩ = some (.slice A1_5 l1_5.length c1_5) := (blk_cell BK109.out 5).trans rfl
        have hcz46_6 : w6.cell? ⟨gb109, 6, none⟩ = some (.slice A1_6 l1_6.length c1_6) := (blk_cell BK109.out 6).trans rfl
        have hfz46_0 := blk_frozen BK109.out 0
        have hfz46_1 := blk_frozen BK109.out 1
        have hfz46_2 := blk_frozen BK109.out 2
        have hfz46_3 := blk_frozen BK109.out 3
        have hfz46_4 := blk_frozen BK109.out 4
        have hfz46_5 := blk_frozen BK109.out 5
        have hfz46_6 := blk_frozen BK109.out 6
        go_wp2
        go_meet
        case rel => exact ⟨_, (true), (by first | rfl | (simp; done) | (simp [*]; done)), H', ⟨by first | omega | exact Nat.le_refl _⟩, ⟨by (with_reducible repeat (first | refine blk_drewN ?_ _ | refine blk_drew ?_ | refine blk_alloc ?_ _)); exact BK108.out⟩, ⟨by (with_reducible repeat (first | refine blk_drewN ?_ _ | refine blk_drew ?_ | refine blk_alloc ?_ _)); exact BK109.out⟩, ⟨by repeat (first | (with_reducible first | exact HB.out | apply below_alloc | apply pw_below_drewN | apply below_drew1 | refine below_set ?_ GE108.out | refine below_set ?_ GE109.out) | exact HB.out)⟩⟩
    · rw [if_neg c7] at H
      have c7b0 : (a0_0 == a1_0) = false := beq_eq_false_iff_ne.mpr c7
      have c7b1 : (a0_0 != a1_0) = true := bne_iff_ne.mpr c7
      (first | rw [c7b0] | (simp only [i64_w, i32_w]; rw [c7b0]) | skip)
      have H' := Aside0.mk H
      clear H
      have hnb47 := NB108_109.out
      have hnc47 := NB109_108.out
      have hcz48_0 : w6.cell? ⟨gb108, 0, none⟩ = some (.int .i64 a0_0) := (blk_cell BK108.out 0).trans rfl
      have hcz48_1 : w6.cell? ⟨gb108, 1, none⟩ = some (.string a0_1) := (blk_cell BK108.out 1).trans rfl
      have hcz48_2 : w6.cell? ⟨gb108, 2, none⟩ = some (.slice A0_2 l0_2.length c0_2) := (blk_cell BK108.out 2).trans rfl
      have hcz48_3 : w6.cell? ⟨gb108, 3, none⟩ = some (.bool a0_3) := (blk_cell BK108.out 3).trans rfl
      have hcz48_4 : w6.cell? ⟨gb108, 4, none⟩ = some (.bool a0_4) := (blk_cell BK108.out 4).trans rfl
      have hcz48_5 : w6.cell? ⟨gb108, 5, none⟩ = some (.slice A0_5 l0_5.length c0_5) := (blk_cell BK108.out 5).trans rfl
      have hcz48_6 : w6.cell? ⟨gb108, 6, none⟩ = some (.slice A0_6 l0_6.length c0_6) := (blk_cell BK108.out 6).trans rfl
      have hfz48_0 := blk_frozen BK108.out 0
      have hfz48_1 := blk_frozen BK108.out 1
      have hfz48_2 := blk_frozen BK108.out 2
      have hfz48_3 := blk_frozen BK108.out 3
      have hfz48_4 := blk_frozen BK108.out 4
      have hfz48_5 := blk_frozen BK108.out 5
      have hfz48_6 := blk_frozen BK108.out 6
      have hcz49_0 : w6.cell? ⟨gb109, 0, none⟩ = some (.int .i64 a1_0) := (blk_cell BK109.out 0).trans rfl
      have hcz49_1 : w6.cell? ⟨gb109, 1, none⟩ = some (.string a1_1) := (blk_cell BK109.out 1).trans rfl
      have hcz49_2 : w6.cell? ⟨gb109, 2, none⟩ = some (.slice A1_2 l1_2.length c1_2) := (blk_cell BK109.out 2).trans rfl
      have hcz49_3 : w6.cell? ⟨gb109, 3, none⟩ = some (.bool a1_3) := (blk_cell BK109.out 3).trans rfl
      have hcz49_4 : w6.cell? ⟨gb109, 4, none⟩ = some (.bool a1_4) := (blk_cell BK109.out 4).trans rfl
      have hcz49_5 : w6.cell? ⟨gb109, 5, none⟩ = some (.slice A1_5 l1_5.length c1_5) := (blk_cell BK109.out 5).trans rfl
      have hcz49_6 : w6.cell? ⟨gb109, 6, none⟩ = some (.slice A1_6 l1_6.length c1_6) := (blk_cell BK109.out 6).trans rfl
      have hfz49_0 := blk_frozen BK109.out 0
      have hfz49_1 := blk_frozen BK109.out 1
      have hfz49_2 := blk_frozen BK109.out 2
      have hfz49_3 := blk_frozen BK109.out 3
      have hfz49_4 := blk_frozen BK109.out 4
      have hfz49_5 := blk_frozen BK109.out 5
      have hfz49_6 := blk_frozen BK109.out 6
      go_wp2
      go_meet
      case rel => exact ⟨_, (true), (by first | rfl | (simp; done) | (simp [*]; done)), H', ⟨by first | omega | exact Nat.le_refl _⟩, ⟨by (with_reducible repeat (first | refine blk_drewN ?_ _ | refine blk_drew ?_ | refine blk_alloc ?_ _)); exact BK108.out⟩, ⟨by (with_reducible repeat (first | refine blk_drewN ?_ _ | refine blk_drew ?_ | refine blk_alloc ?_ _)); exact BK109.out⟩, ⟨by repeat (first | (with_reducible first | exact HB.out | apply below_alloc | apply pw_below_drewN | apply below_drew1 | refine below_set ?_ GE108.out | refine below_set ?_ GE109.out) | exact HB.out)⟩⟩
  case rest =>
    clear HC4
    try clear c1
    try clear c2
    try clear p2
    try clear c3
    try clear c4
    try clear c7
    try clear c7b0
    try clear c7b1
    try clear c8
    try clear c8b0
    try clear c8b1
    try clear c9
    try clear c9b0
    try clear c9b1
    try clear c9b2
    try clear c10
    try clear c13
    try clear c14
    try clear c14b0
    try clear c14b1
    try clear c14b2
    try clear c15
    try clear c18
    try clear c19
    try clear c21
    try clear c22
    try clear c25
    try clear c28
    try clear c32
    try clear c34
    try clear c35
    try clear c38
    try clear c41
    try clear c44
    try clear c47
    try clear hcz11_0
    try clear hcz11_1
    try clear hcz11_2
    try clear hcz11_3
    try clear hcz11_4
    try clear hcz11_5
    try clear hcz11_6
    try clear hcz12_0
    try clear hcz12_1
    try clear hcz12_2
    try clear hcz12_3
    try clear hcz12_4
    try clear hcz12_5
    try clear hcz12_6
    try clear hcz16_0
    try clear hcz16_1
    try clear hcz16_2
    try clear hcz16_3
    try clear hcz16_4
    try clear hcz16_5
    try clear hcz16_6
    try clear hcz17_0
    try clear hcz17_1
    try clear hcz17_2
    try clear hcz17_3
    try clear hcz17_4
    try clear hcz17_5
    try clear hcz17_6
    try clear hcz23_0
    try clear hcz23_1
    try clear hcz23_2
    try clear hcz23_3
    try clear hcz23_4
    try clear hcz23_5
    try clear hcz23_6
    try clear hcz24_0
    try clear hcz24_1
    try clear hcz24_2
    try clear hcz24_3
    try clear hcz24_4
    try clear hcz24_5
    try clear hcz24_6
    try clear hcz26_0
    try clear hcz26_1
    try clear hcz26_2
    try clear hcz26_3
    try clear hcz26_4
    try clear hcz26_5
    try clear hcz26_6
    try clear hcz27_0
    try clear hcz27_1
    try clear hcz27_2
    try clear hcz27_3
    try clear hcz27_4
    try clear hcz27_5
    try clear hcz27_6
    try clear hcz29_0
    try clear hcz29_1
    try clear hcz29_2
    try clear hcz29_3
    try clear hcz29_4
    try clear hcz29_5
    try clear hcz29_6
    try clear hcz30_0
    try clear hcz30_1
    try clear hcz30_2
    try clear hcz30_3
    try clear hcz30_4
    try clear hcz30_5
    try clear hcz30_6
    try clear hcz36_0
    try clear hcz36_1
    try clear hcz36_2
    try clear hcz36_3
    try clear hcz36_4
    try clear hcz36_5
    try clear hcz36_6
    try clear hcz37_0
    try clear hcz37_1
    try clear hcz37_2
    try clear hcz37_3
    try clear hcz37_4
    try clear hcz37_5
    try clear hcz37_6
    try clear hcz39_0
    try clear hcz39_1
    try clear hcz39_2
    try clear hcz39_3
    try clear hcz39_4
    try clear hcz39_5
    try clear hcz39_6
    try clear hcz40_0
    try clear hcz40_1
    try clear hcz40_2
    try clear hcz40_3
    try clear hcz40_4
    try clear hcz40_5
    try clear hcz40_6
    try clear hcz42_0
    try clear hcz42_1
    try clear hcz42_2
    try clear hcz42_3
    try clear hcz42_4
    try clear hcz42_5
    try clear hcz42_6
    try clear hcz43_0
    try clear hcz43_1
    try clear hcz43_2
    try clear hcz43_3
    try clear hcz43_4
    try clear hcz43_5
    try clear hcz43_6
    try clear hcz45_0
    try clear hcz45_1
    try clear hcz45_2
    try clear hcz45_3
    try clear hcz45_4
    try clear hcz45_5
    try clear hcz45_6
    try clear hcz46_0
    try clear hcz46_1
    try clear hcz46_2
    try clear hcz46_3
    try clear hcz46_4
    try clear hcz46_5
    try clear hcz46_6
    try clear hcz48_0
    try clear hcz48_1
    try clear hcz48_2
    try clear hcz48_3
    try clear hcz48_4
    try clear hcz48_5
    try clear hcz48_6
    try clear hcz49_0
    try clear hcz49_1
    try clear hcz49_2
    try clear hcz49_3
    try clear hcz49_4
    try clear hcz49_5
    try clear hcz49_6
    try clear hfz11_0
    try clear hfz11_1
    try clear hfz11_2
    try clear hfz11_3
    try clear hfz11_4
    try clear hfz11_5
    try clear hfz11_6
    try clear hfz12_0
    try clear hfz12_1
    try clear hfz12_2
    try clear hfz12_3
    try clear hfz12_4
    try clear hfz12_5
    try clear hfz12_6
    try clear hfz16_0
    try clear hfz16_1
    try clear hfz16_2
    try clear hfz16_3
    try clear hfz16_4
    try clear hfz16_5
    try clear hfz16_6
    try clear hfz17_0
    try clear hfz17_1
    try clear hfz17_2
    try clear hfz17_3
    try clear hfz17_4
    try clear hfz17_5
    try clear hfz17_6
    try clear hfz23_0
    try clear hfz23_1
    try clear hfz23_2
    try clear hfz23_3
    try clear hfz23_4
    try clear hfz23_5
    try clear hfz23_6
    try clear hfz24_0
    try clear hfz24_1
    try clear hfz24_2
    try clear hfz24_3
    try clear hfz24_4
    try clear hfz24_5
    try clear hfz24_6
    try clear hfz26_0
    try clear hfz26_1
    try clear hfz26_2
    try clear hfz26_3
    try clear hfz26_4
    try clear hfz26_5
    try clear hfz26_6
    try clear hfz27_0
    try clear hfz27_1
    try clear hfz27_2
    try clear hfz27_3
    try clear hfz27_4
    try clear hfz27_5
    try clear hfz27_6
    try clear hfz29_0
    try clear hfz29_1
    try clear hfz29_2
    try clear hfz29_3
    try clear hfz29_4
    try clear hfz29_5
    try clear hfz29_6
    try clear hfz30_0
    try clear hfz30_1
    try clear hfz30_2
    try clear hfz30_3
    try clear hfz30_4
    try clear hfz30_5
    try clear hfz30_6
    try clear hfz36_0
    try clear hfz36_1
    try clear hfz36_2
    try clear hfz36_3
    try clear hfz36_4
    try clear hfz36_5
    try clear hfz36_6
    try clear hfz37_0
    try clear hfz37_1
    try clear hfz37_2
    try clear hfz37_3
    try clear hfz37_4
    try clear hfz37_5
    try clear hfz37_6
    try clear hfz39_0
    try clear hfz39_1
    try clear hfz39_2
    try clear hfz39_3
    try clear hfz39_4
    try clear hfz39_5
    try clear hfz39_6
    try clear hfz40_0
    try clear hfz40_1
    try clear hfz40_2
    try clear hfz40_3
    try clear hfz40_4
    try clear hfz40_5
    try clear hfz40_6
    try clear hfz42_0
    try clear hfz42_1
    try clear hfz42_2
    try clear hfz42_3
    try clear hfz42_4
    try clear hfz42_5
    try clear hfz42_6
    try clear hfz43_0
    try clear hfz43_1
    try clear hfz43_2
    try clear hfz43_3
    try clear hfz43_4
    try clear hfz43_5
    try clear hfz43_6
    try clear hfz45_0
    try clear hfz45_1
    try clear hfz45_2
    try clear hfz45_3
    try clear hfz45_4
    try clear hfz45_5
    try clear hfz45_6
    try clear hfz46_0
    try clear hfz46_1
    try clear hfz46_2
    try clear hfz46_3
    try clear hfz46_4
    try clear hfz46_5
    try clear hfz46_6
    try clear hfz48_0
    try clear hfz48_1
    try clear hfz48_2
    try clear hfz48_3
    try clear hfz48_4
    try clear hfz48_5
    try clear hfz48_6
    try clear hfz49_0
    try clear hfz49_1
    try clear hfz49_2
    try clear hfz49_3
    try clear hfz49_4
    try clear hfz49_5
    try clear hfz49_6
    obtain ⟨kq, x61_3, rfl, HA, HJ3, BK108, BK109, HB⟩ := hcut
    cases kq with
    | zero => exact absurd HA.out (by simp [galleyref9_like.j0])
    | succ kj3 =>
      have H := HA.out
      clear HA
      simp only [galleyref9_like.j0] at H
      by_cases c50 : x61_3 = true
      · subst c50
        have H1 : (some false) = some r := by rw [if_pos rfl] at H; exact H
        clear H
        have H := H1
        clear H1
        obtain rfl := Option.some.inj H
        go_wp2
        go_ret
        exact ⟨by first | rfl | (simp [errW_none, errW_some] <;> rfl) | (simp [*, errW_none, errW_some] <;> rfl), by repeat (first | (with_reducible first | exact HB.out | apply below_alloc | apply pw_below_drewN | apply below_drew1 | refine below_set ?_ GE108.out | refine below_set ?_ GE109.out) | exact HB.out)⟩
      · replace c50 := Bool.eq_false_iff.mpr c50
        subst c50
        have H1 : (galleyref9_like.l0 kj3 a2 0 a0_0 a0_1 l0_2 a0_3 a0_4 l0_5 l0_6 a1_0 a1_1 l1_2 a1_3 a1_4 l1_5 l1_6) = some r := by rw [if_neg (show ¬ (false = true) by decide)] at H; exact H
        clear H
        have H := H1
        clear H1
        have H' := Aside0.mk H
        clear H
        go_wp2
        go_loopg [7] kj3 (fun kq v7 w' => ∃ (x7_2 : Int), v7 = .int .i64 x7_2 ∧ Aside0 (galleyref9_like.l0 kq a2 x7_2 a0_0 a0_1 l0_2 a0_3 a0_4 l0_5 l0_6 a1_0 a1_1 l1_2 a1_3 a1_4 l1_5 l1_6 = some r) ∧ Aside0 (kq ≤ kj3) ∧ Aside0 (w'.heap[gb108]? = some (.cells #[.int .i64 a0_0, .string a0_1, (.slice A0_2 l0_2.length c0_2), .bool a0_3, .bool a0_4, (.slice A0_5 l0_5.length c0_5), (.slice A0_6 l0_6.length c0_6)] 32 (0, 0))) ∧ Aside0 (w'.heap[gb109]? = some (.cells #[.int .i64 a1_0, .string a1_1, (.slice A1_2 l1_2.length c1_2), .bool a1_3, .bool a1_4, (.slice A1_5 l1_5.length c1_5), (.slice A1_6 l1_6.length c1_6)] 32 (0, 0))) ∧ Aside0 (Below w.heap.size w w'))
        case atStart => exact ⟨(0), (by first | rfl | (simp; done) | (simp [*]; done)), H', ⟨Nat.le_refl _⟩, ⟨by (with_reducible repeat (first | refine blk_drewN ?_ _ | refine blk_drew ?_ | refine blk_alloc ?_ _)); exact BK108.out⟩, ⟨by (with_reducible repeat (first | refine blk_drewN ?_ _ | refine blk_drew ?_ | refine blk_alloc ?_ _)); exact BK109.out⟩, ⟨by repeat (first | (with_reducible first | exact HB.out | apply below_alloc | apply pw_below_drewN | apply below_drew1 | refine below_set ?_ GE108.out | refine below_set ?_ GE109.out) | exact HB.out)⟩⟩
        case round =>
          clear H'
          try clear c1
          try clear c2
          try clear p2
          try clear c3
          try clear c4
          try clear c5
          try clear c7
          try clear c7b0
          try clear c7b1
          try clear c8
          try clear c8b0
          try clear c8b1
          try clear c9
          try clear c9b0
          try clear c9b1
          try clear c9b2
          try clear c10
          try clear c13
          try clear c14
          try clear c14b0
          try clear c14b1
          try clear c14b2
          try clear c15
          try clear c18
          try clear c19
          try clear c21
          try clear c22
          try clear c25
          try clear c28
          try clear c32
          try clear c34
          try clear c35
          try clear c38
          try clear c41
          try clear c44
          try clear c47
          try clear c50
          try clear hcz11_0
          try clear hcz11_1
          try clear hcz11_2
          try clear hcz11_3
          try clear hcz11_4
          try clear hcz11_5
          try clear hcz11_6
          try clear hcz12_0
          try clear hcz12_1
          try clear hcz12_2
          try clear hcz12_3
          try clear hcz12_4
          try clear hcz12_5
          try clear hcz12_6
          try clear hcz16_0
          try clear hcz16_1
          try clear hcz16_2
          try clear hcz16_3
          try clear hcz16_4
          try clear hcz16_5
          try clear hcz16_6
          try clear hcz17_0
          try clear hcz17_1
          try clear hcz17_2
          try clear hcz17_3
          try clear hcz17_4
          try clear hcz17_5
          try clear hcz17_6
          try clear hcz23_0
          try clear hcz23_1
          try clear hcz23_2
          try clear hcz23_3
          try clear hcz23_4
          try clear hcz23_5
          try clear hcz23_6
          try clear hcz24_0
          try clear hcz24_1
          try clear hcz24_2
          try clear hcz24_3
          try clear hcz24_4
          try clear hcz24_5
          try clear hcz24_6
          try clear hcz26_0
          try clear hcz26_1
          try clear hcz26_2
          try clear hcz26_3
          try clear hcz26_4
          try clear hcz26_5
          try clear hcz26_6
          try clear hcz27_0
          try clear hcz27_1
          try clear hcz27_2
          try clear hcz27_3
          try clear hcz27_4
          try clear hcz27_5
          try clear hcz27_6
          try clear hcz29_0
          try clear hcz29_1
          try clear hcz29_2
          try clear hcz29_3
          try clear hcz29_4
          try clear hcz29_5
          try clear hcz29_6
          try clear hcz30_0
          try clear hcz30_1
          try clear hcz30_2
          try clear hcz30_3
          try clear hcz30_4
          try clear hcz30_5
          try clear hcz30_6
          try clear hcz36_0
          try clear hcz36_1
          try clear hcz36_2
          try clear hcz36_3
          try clear hcz36_4
          try clear hcz36_5
          try clear hcz36_6
          try clear hcz37_0
          try clear hcz37_1
          try clear hcz37_2
          try clear hcz37_3
          try clear hcz37_4
          try clear hcz37_5
          try clear hcz37_6
          try clear hcz39_0
          try clear hcz39_1
          try clear hcz39_2
          try clear hcz39_3
          try clear hcz39_4
          try clear hcz39_5
          try clear hcz39_6
          try clear hcz40_0
          try clear hcz40_1
          try clear hcz40_2
          try clear hcz40_3
          try clear hcz40_4
          try clear hcz40_5
          try clear hcz40_6
          try clear hcz42_0
          try clear hcz42_1
          try clear hcz42_2
          try clear hcz42_3
          try clear hcz42_4
          try clear hcz42_5
          try clear hcz42_6
          try clear hcz43_0
          try clear hcz43_1
          try clear hcz43_2
          try clear hcz43_3
          try clear hcz43_4
          try clear hcz43_5
          try clear hcz43_6
          try clear hcz45_0
          try clear hcz45_1
          try clear hcz45_2
          try clear hcz45_3
          try clear hcz45_4
          try clear hcz45_5
          try clear hcz45_6
          try clear hcz46_0
          try clear hcz46_1
          try clear hcz46_2
          try clear hcz46_3
          try clear hcz46_4
          try clear hcz46_5
          try clear hcz46_6
          try clear hcz48_0
          try clear hcz48_1
          try clear hcz48_2
          try clear hcz48_3
          try clear hcz48_4
          try clear hcz48_5
          try clear hcz48_6
          try clear hcz49_0
          try clear hcz49_1
          try clear hcz49_2
          try clear hcz49_3
          try clear hcz49_4
          try clear hcz49_5
          try clear hcz49_6
          try clear hfz11_0
          try clear hfz11_1
          try clear hfz11_2
          try clear hfz11_3
          try clear hfz11_4
          try clear hfz11_5
          try clear hfz11_6
          try clear hfz12_0
          try clear hfz12_1
          try clear hfz12_2
          try clear hfz12_3
          try clear hfz12_4
          try clear hfz12_5
          try clear hfz12_6
          try clear hfz16_0
          try clear hfz16_1
          try clear hfz16_2
          try clear hfz16_3
          try clear hfz16_4
          try clear hfz16_5
          try clear hfz16_6
          try clear hfz17_0
          try clear hfz17_1
          try clear hfz17_2
          try clear hfz17_3
          try clear hfz17_4
          try clear hfz17_5
          try clear hfz17_6
          try clear hfz23_0
          try clear hfz23_1
          try clear hfz23_2
          try clear hfz23_3
          try clear hfz23_4
          try clear hfz23_5
          try clear hfz23_6
          try clear hfz24_0
          try clear hfz24_1
          try clear hfz24_2
          try clear hfz24_3
          try clear hfz24_4
          try clear hfz24_5
          try clear hfz24_6
          try clear hfz26_0
          try clear hfz26_1
          try clear hfz26_2
          try clear hfz26_3
          try clear hfz26_4
          try clear hfz26_5
          try clear hfz26_6
          try clear hfz27_0
          try clear hfz27_1
          try clear hfz27_2
          try clear hfz27_3
          try clear hfz27_4
          try clear hfz27_5
          try clear hfz27_6
          try clear hfz29_0
          try clear hfz29_1
          try clear hfz29_2
          try clear hfz29_3
          try clear hfz29_4
          try clear hfz29_5
          try clear hfz29_6
          try clear hfz30_0
          try clear hfz30_1
          try clear hfz30_2
          try clear hfz30_3
          try clear hfz30_4
          try clear hfz30_5
          try clear hfz30_6
          try clear hfz36_0
          try clear hfz36_1
          try clear hfz36_2
          try clear hfz36_3
          try clear hfz36_4
          try clear hfz36_5
          try clear hfz36_6
          try clear hfz37_0
          try clear hfz37_1
          try clear hfz37_2
          try clear hfz37_3
          try clear hfz37_4
          try clear hfz37_5
          try clear hfz37_6
          try clear hfz39_0
          try clear hfz39_1
          try clear hfz39_2
          try clear hfz39_3
          try clear hfz39_4
          try clear hfz39_5
          try clear hfz39_6
          try clear hfz40_0
          try clear hfz40_1
          try clear hfz40_2
          try clear hfz40_3
          try clear hfz40_4
          try clear hfz40_5
          try clear hfz40_6
          try clear hfz42_0
          try clear hfz42_1
          try clear hfz42_2
          try clear hfz42_3
          try clear hfz42_4
          try clear hfz42_5
          try clear hfz42_6
          try clear hfz43_0
          try clear hfz43_1
          try clear hfz43_2
          try clear hfz43_3
          try clear hfz43_4
          try clear hfz43_5
          try clear hfz43_6
          try clear hfz45_0
          try clear hfz45_1
          try clear hfz45_2
          try clear hfz45_3
          try clear hfz45_4
          try clear hfz45_5
          try clear hfz45_6
          try clear hfz46_0
          try clear hfz46_1
          try clear hfz46_2
          try clear hfz46_3
          try clear hfz46_4
          try clear hfz46_5
          try clear hfz46_6
          try clear hfz48_0
          try clear hfz48_1
          try clear hfz48_2
          try clear hfz48_3
          try clear hfz48_4
          try clear hfz48_5
          try clear hfz48_6
          try clear hfz49_0
          try clear hfz49_1
          try clear hfz49_2
          try clear hfz49_3
          try clear hfz49_4
          try clear hfz49_5
          try clear hfz49_6
          try clear p2
          obtain ⟨x7_2, rfl, HA, HK2, BK108, BK109, HB⟩ := hrel
          cases gk with
          | zero => exact absurd HA.out (by simp [galleyref9_like.l0])
          | succ k2 =>
            have H := HA.out
            clear HA
            simp only [galleyref9_like.l0] at H
            by_cases c51 : x7_2 < (l0_2.length : Int)
            · rw [if_pos c51] at H
              have c51b0 : decide (x7_2 < (l0_2.length : Int)) = true := decide_eq_true c51
              clear c51
              by_cases c52 : 0 ≤ x7_2
              · rw [if_pos c52] at H
                have c52b0 : decide (0 ≤ x7_2) = true := decide_eq_true c52
                clear c52
                by_cases c53 : x7_2 < (l1_2.length : Int)
                · rw [if_pos c53] at H
                  have c53b0 : decide (x7_2 < (l1_2.length : Int)) = true := decide_eq_true c53
                  clear c53
                  replace H := Option.bind_eq_some_iff.mp H
                  obtain ⟨t116, A540, H⟩ := H
                  replace H : (if t116 = true then (galleyref9_like.l0 k2 a2 (wrap64 (x7_2 + 1)) a0_0 a0_1 l0_2 a0_3 a0_4 l0_5 l0_6 a1_0 a1_1 l1_2 a1_3 a1_4 l1_5 l1_6) else (some false)) = some r := H
                  have A54 := Aside0.mk A540
                  clear A540
                  by_cases c55 : t116 = true
                  · subst c55
                    have H1 : (galleyref9_like.l0 k2 a2 (wrap64 (x7_2 + 1)) a0_0 a0_1 l0_2 a0_3 a0_4 l0_5 l0_6 a1_0 a1_1 l1_2 a1_3 a1_4 l1_5 l1_6) = some r := by rw [if_pos rfl] at H; exact H
                    clear H
                    have H := H1
                    clear H1
                    have H' := Aside0.mk H
                    clear H
                    have hnb56 := NB108_109.out
                    have hnc56 := NB109_108.out
                    have hcz57_0 : wr.cell? ⟨gb108, 0, none⟩ = some (.int .i64 a0_0) := (blk_cell BK108.out 0).trans rfl
                    have hcz57_1 : wr.cell? ⟨gb108, 1, none⟩ = some (.string a0_1) := (blk_cell BK108.out 1).trans rfl
                    have hcz57_2 : wr.cell? ⟨gb108, 2, none⟩ = some (.slice A0_2 l0_2.length c0_2) := (blk_cell BK108.out 2).trans rfl
                    have hcz57_3 : wr.cell? ⟨gb108, 3, none⟩ = some (.bool a0_3) := (blk_cell BK108.out 3).trans rfl
                    have hcz57_4 : wr.cell? ⟨gb108, 4, none⟩ = some (.bool a0_4) := (blk_cell BK108.out 4).trans rfl
                    have hcz57_5 : wr.cell? ⟨gb108, 5, none⟩ = some (.slice A0_5 l0_5.length c0_5) := (blk_cell BK108.out 5).trans rfl
                    have hcz57_6 : wr.cell? ⟨gb108, 6, none⟩ = some (.slice A0_6 l0_6.length c0_6) := (blk_cell BK108.out 6).trans rfl
                    have hfz57_0 := blk_frozen BK108.out 0
                    have hfz57_1 := blk_frozen BK108.out 1
                    have hfz57_2 := blk_frozen BK108.out 2
                    have hfz57_3 := blk_frozen BK108.out 3
                    have hfz57_4 := blk_frozen BK108.out 4
                    have hfz57_5 := blk_frozen BK108.out 5
                    have hfz57_6 := blk_frozen BK108.out 6
                    try go_wp2
                    have n0_ := Aside0.mk (blk_drew BK108.out)
                    have n1_ := Aside0.mk (blk_drew BK109.out)
                    have n2_ := Aside0.mk (below_drew1 HB.out)
                    clear BK108
                    clear BK109
                    clear HB
                    have BK108 := n0_
                    have BK109 := n1_
                    have HB := n2_
                    clear n0_ n1_ n2_
                    have p114 : 0 ≤ (x7_2 : Int) := of_decide_eq_true (by first | (with_reducible assumption) | assumption)
                    have q114 : x7_2 < (l0_2.length : Int) := of_decide_eq_true (by first | (with_reducible assumption) | assumption)
                    obtain ⟨ad114, A114_2, c114_2, A114_5, c114_5, A114_6, c114_6, e114, hx114_0, hx114_1, hx114_2, hx114_3, hx114_4, hx114_5, hx114_6, hl114_2, hi114_2, hl114_5, hi114_5, hl114_6, hi114_6⟩ := at_T32 HR0_2.out x7_2 p114 q114
                    have hw114_6 := hx114_6
                    have hw114_5 := hx114_5
                    have hw114_4 := hx114_4
                    have hw114_3 := hx114_3
                    have hw114_2 := hx114_2
                    have hw114_1 := hx114_1
                    have hw114_0 := hx114_0
                    cases e114
                    replace hx114_0 := (HB.out.cell (World.block_lt_of_cell? w _ hx114_0)).trans hx114_0
                    replace hx114_1 := (HB.out.cell (World.block_lt_of_cell? w _ hx114_1)).trans hx114_1
                    replace hx114_2 := (HB.out.cell (World.block_lt_of_cell? w _ hx114_2)).trans hx114_2
                    replace hx114_3 := (HB.out.cell (World.block_lt_of_cell? w _ hx114_3)).trans hx114_3
                    replace hx114_4 := (HB.out.cell (World.block_lt_of_cell? w _ hx114_4)).trans hx114_4
                    replace hx114_5 := (HB.out.cell (World.block_lt_of_cell? w _ hx114_5)).trans hx114_5
                    replace hx114_6 := (HB.out.cell (World.block_lt_of_cell? w _ hx114_6)).trans hx114_6
                    have HR114_2 := Aside0.mk hi114_2
                    have HC114_2 := Aside0.mk hl114_2
                    clear hi114_2 hl114_2
                    have HR114_5 := Aside0.mk hi114_5
                    have HC114_5 := Aside0.mk hl114_5
                    clear hi114_5 hl114_5
                    have HR114_6 := Aside0.mk hi114_6
                    have HC114_6 := Aside0.mk hl114_6
                    clear hi114_6 hl114_6
                    replace p114 := eq_true p114
                    replace q114 := eq_true q114
                    have p115 : 0 ≤ (x7_2 : Int) := of_decide_eq_true (by first | (with_reducible assumption) | assumption)
                    have q115 : x7_2 < (l1_2.length : Int) := of_decide_eq_true (by first | (with_reducible assumption) | assumption)
                    obtain ⟨ad115, A115_2, c115_2, A115_5, c115_5, A115_6, c115_6, e115, hx115_0, hx115_1, hx115_2, hx115_3, hx115_4, hx115_5, hx115_6, hl115_2, hi115_2, hl115_5, hi115_5, hl115_6, hi115_6⟩ := at_T32 HR1_2.out x7_2 p115 q115
                    have hw115_6 := hx115_6
                    have hw115_5 := hx115_5
                    have hw115_4 := hx115_4
                    have hw115_3 := hx115_3
                    have hw115_2 := hx115_2
                    have hw115_1 := hx115_1
                    have hw115_0 := hx115_0
                    cases e115
                    replace hx115_0 := (HB.out.cell (World.block_lt_of_cell? w _ hx115_0)).trans hx115_0
                    replace hx115_1 := (HB.out.cell (World.block_lt_of_cell? w _ hx115_1)).trans hx115_1
                    replace hx115_2 := (HB.out.cell (World.block_lt_of_cell? w _ hx115_2)).trans hx115_2
                    replace hx115_3 := (HB.out.cell (World.block_lt_of_cell? w _ hx115_3)).trans hx115_3
                    replace hx115_4 := (HB.out.cell (World.block_lt_of_cell? w _ hx115_4)).trans hx115_4
                    replace hx115_5 := (HB.out.cell (World.block_lt_of_cell? w _ hx115_5)).trans hx115_5
                    replace hx115_6 := (HB.out.cell (World.block_lt_of_cell? w _ hx115_6)).trans hx115_6
                    have HR115_2 := Aside0.mk hi115_2
                    have HC115_2 := Aside0.mk hl115_2
                    clear hi115_2 hl115_2
                    have HR115_5 := Aside0.mk hi115_5
                    have HC115_5 := Aside0.mk hl115_5
                    clear hi115_5 hl115_5
                    have HR115_6 := Aside0.mk hi115_6
                    have HC115_6 := Aside0.mk hl115_6
                    clear hi115_6 hl115_6
                    replace p115 := eq_true p115
                    replace q115 := eq_true q115
                    refine start_ (n := 13) (S := fun w' => w'.cell? ⟨gb108, 0, none⟩ = some (.int .i64 a0_0) ∧ w'.cell? ⟨gb108, 1, none⟩ = some (.string a0_1) ∧ w'.cell? ⟨gb108, 2, none⟩ = some (.slice (some ad114) l0_2.length c0_2) ∧ w'.cell? ⟨gb108, 3, none⟩ = some (.bool a0_3) ∧ w'.cell? ⟨gb108, 4, none⟩ = some (.bool a0_4) ∧ w'.cell? ⟨gb108, 5, none⟩ = some (.slice A0_5 l0_5.length c0_5) ∧ w'.cell? ⟨gb108, 6, none⟩ = some (.slice A0_6 l0_6.length c0_6) ∧ w'.cell? ⟨gb109, 0, none⟩ = some (.int .i64 a1_0) ∧ w'.cell? ⟨gb109, 1, none⟩ = some (.string a1_1) ∧ w'.cell? ⟨gb109, 2, none⟩ = some (.slice (some ad115) l1_2.length c1_2) ∧ w'.cell? ⟨gb109, 3, none⟩ = some (.bool a1_3) ∧ w'.cell? ⟨gb109, 4, none⟩ = some (.bool a1_4) ∧ w'.cell? ⟨gb109, 5, none⟩ = some (.slice A1_5 l1_5.length c1_5) ∧ w'.cell? ⟨gb109, 6, none⟩ = some (.slice A1_6 l1_6.length c1_6) ∧ w'.cell? (ad114.add ((x7_2).toNat * 7)) = some (.int .i64 ((rd_T32 l0_2 x7_2).f0)) ∧ w'.cell? ⟨(ad114.add ((x7_2).toNat * 7)).block, (ad114.add ((x7_2).toNat * 7)).off + 1, none⟩ = some (.string ((rd_T32 l0_2 x7_2).f1)) ∧ w'.cell? ⟨(ad114.add ((x7_2).toNat * 7)).block, (ad114.add ((x7_2).toNat * 7)).off + 2, none⟩ = some (.slice A114_2 ((rd_T32 l0_2 x7_2).f2).length c114_2) ∧ w'.cell? ⟨(ad114.add ((x7_2).toNat * 7)).block, (ad114.add ((x7_2).toNat * 7)).off + 3, none⟩ = some (.bool ((rd_T32 l0_2 x7_2).f3)) ∧ w'.cell? ⟨(ad114.add ((x7_2).toNat * 7)).block, (ad114.add ((x7_2).toNat * 7)).off + 4, none⟩ = some (.bool ((rd_T32 l0_2 x7_2).f4)) ∧ w'.cell? ⟨(ad114.add ((x7_2).toNat * 7)).block, (ad114.add ((x7_2).toNat * 7)).off + 5, none⟩ = some (.slice A114_5 ((rd_T32 l0_2 x7_2).f5).length c114_5) ∧ w'.cell? ⟨(ad114.add ((x7_2).toNat * 7)).block, (ad114.add ((x7_2).toNat * 7)).off + 6, none⟩ = some (.slice A114_6 ((rd_T32 l0_2 x7_2).f6).length c114_6) ∧ w'.cell? (ad115.add ((x7_2).toNat * 7)) = some (.int .i64 ((rd_T32 l1_2 x7_2).f0)) ∧ w'.cell? ⟨(ad115.add ((x7_2).toNat * 7)).block, (ad115.add ((x7_2).toNat * 7)).off + 1, none⟩ = some (.string ((rd_T32 l1_2 x7_2).f1)) ∧ w'.cell? ⟨(ad115.add ((x7_2).toNat * 7)).block, (ad115.add ((x7_2).toNat * 7)).off + 2, none⟩ = some (.slice A115_2 ((rd_T32 l1_2 x7_2).f2).length c115_2) ∧ w'.cell? ⟨(ad115.add ((x7_2).toNat * 7)).block, (ad115.add ((x7_2).toNat * 7)).off + 3, none⟩ = some (.bool ((rd_T32 l1_2 x7_2).f3)) ∧ w'.cell? ⟨(ad115.add ((x7_2).toNat * 7)).block, (ad115.add ((x7_2).toNat * 7)).off + 4, none⟩ = some (.bool ((rd_T32 l1_2 x7_2).f4)) ∧ w'.cell? ⟨(ad115.add ((x7_2).toNat * 7)).block, (ad115.add ((x7_2).toNat * 7)).off + 5, none⟩ = some (.slice A115_5 ((rd_T32 l1_2 x7_2).f5).length c115_5) ∧ w'.cell? ⟨(ad115.add ((x7_2).toNat * 7)).block, (ad115.add ((x7_2).toNat * 7)).off + 6, none⟩ = some (.slice A115_6 ((rd_T32 l1_2 x7_2).f6).length c115_6)) (ds := []) #[false, false, false, false, false, false, false, false, false, false, false, false, false] (by kernel_rfl) rfl rfl ⟨(blk_cell BK108.out 0).trans rfl, (blk_cell BK108.out 1).trans rfl, (blk_cell BK108.out 2).trans rfl, (blk_cell BK108.out 3).trans rfl, (blk_cell BK108.out 4).trans rfl, (blk_cell BK108.out 5).trans rfl, (blk_cell BK108.out 6).trans rfl, (blk_cell BK109.out 0).trans rfl, (blk_cell BK109.out 1).trans rfl, (blk_cell BK109.out 2).trans rfl, (blk_cell BK109.out 3).trans rfl, (blk_cell BK109.out 4).trans rfl, (blk_cell BK109.out 5).trans rfl, (blk_cell BK109.out 6).trans rfl, ((HB.out.cell (World.block_lt_of_cell? w _ hw114_0)).trans hw114_0), ((HB.out.cell (World.block_lt_of_cell? w _ hw114_1)).trans hw114_1), ((HB.out.cell (World.block_lt_of_cell? w _ hw114_2)).trans hw114_2), ((HB.out.cell (World.block_lt_of_cell? w _ hw114_3)).trans hw114_3), ((HB.out.cell (World.block_lt_of_cell? w _ hw114_4)).trans hw114_4), ((HB.out.cell (World.block_lt_of_cell? w _ hw114_5)).trans hw114_5), ((HB.out.cell (World.block_lt_of_cell? w _ hw114_6)).trans hw114_6), ((HB.out.cell (World.block_lt_of_cell? w _ hw115_0)).trans hw115_0), ((HB.out.cell (World.block_lt_of_cell? w _ hw115_1)).trans hw115_1), ((HB.out.cell (World.block_lt_of_cell? w _ hw115_2)).trans hw115_2), ((HB.out.cell (World.block_lt_of_cell? w _ hw115_3)).trans hw115_3), ((HB.out.cell (World.block_lt_of_cell? w _ hw115_4)).trans hw115_4), ((HB.out.cell (World.block_lt_of_cell? w _ hw115_5)).trans hw115_5), ((HB.out.cell (World.block_lt_of_cell? w _ hw115_6)).trans hw115_6)⟩ (fun hHeld => ?_); refine with_tabW galleyref9_like.tab6 galleyref9_like.bits6 (fun HT_ HW_ => ?_)
                    generalize wr.drew = w58 at BK108 BK109 HB HR114_2 HR114_5 HR114_6 HR115_2 HR115_5 HR115_6 hx114_0 hx114_1 hx114_2 hx114_3 hx114_4 hx114_5 hx114_6 hx115_0 hx115_1 hx115_2 hx115_3 hx115_4 hx115_5 hx115_6 hHeld ⊢
                    refine pure_ (i := 0) (N := some 69) (v := ?_) (a' := ?_) #[true, false, false, false, false, false, false, false, false, false, false, false, false] rfl rfl (any_of HT_.out (by kernel_rfl)) (fun _ _ _ h => h) (Or.inl ⟨by rfl, ?_⟩) ?_ ?_
                    rotate_left
                    · intro w'
                      go_simp
                      with_reducible rfl
                    rotate_left
                    · simp only [Act.put, List.setIfInBounds_toArray, List.set_cons_zero, List.set_cons_succ, i64_w, i32_w]
                      rfl
                    refine pure_ (i := 2) (N := some 71) (v := ?_) (a' := ?_) #[true, false, true, false, false, false, false, false, false, false, false, false, false] rfl rfl (any_of HT_.out (by kernel_rfl)) (fun _ _ _ h => h) (Or.inl ⟨by rfl, ?_⟩) ?_ ?_
                    rotate_left
                    · intro w'
                      go_simp
                      with_reducible rfl
                    rotate_left
                    · simp only [Act.put, List.setIfInBounds_toArray, List.set_cons_zero, List.set_cons_succ, i64_w, i32_w]
                      rfl
                    refine pure_ (i := 5) (N := some 74) (v := ?_) (a' := ?_) #[true, false, true, false, false, true, false, false, false, false, false, false, false] rfl rfl (any_of HT_.out (by kernel_rfl)) (fun _ _ _ h => h) (Or.inl ⟨by rfl, ?_⟩) ?_ ?_
                    rotate_left
                    · intro w'
                      go_simp
                      with_reducible rfl
                    rotate_left
                    · simp only [Act.put, List.setIfInBounds_toArray, List.set_cons_zero, List.set_cons_succ, i64_w, i32_w]
                      rfl
                    refine pure_ (i := 7) (N := some 76) (v := ?_) (a' := ?_) #[true, false, true, false, false, true, false, true, false, false, false, false, false] rfl rfl (any_of HT_.out (by kernel_rfl)) (fun _ _ _ h => h) (Or.inl ⟨by rfl, ?_⟩) ?_ ?_
                    rotate_left
                    · intro w'
                      go_simp
                      with_reducible rfl
                    rotate_left
                    · simp only [Act.put, List.setIfInBounds_toArray, List.set_cons_zero, List.set_cons_succ, i64_w, i32_w]
                      rfl
                    refine pure_ (i := 10) (N := some 79) (v := ?_) (a' := ?_) #[true, false, true, false, false, true, false, true, false, false, true, false, false] rfl rfl (any_of HT_.out (by kernel_rfl)) (fun _ _ _ h => h) (Or.inl ⟨by rfl, ?_⟩) ?_ ?_
                    rotate_left
                    · intro w'
                      go_simp
                      with_reducible rfl
                    rotate_left
                    · simp only [Act.put, List.setIfInBounds_toArray, List.set_cons_zero, List.set_cons_succ, i64_w, i32_w]
                      rfl
                    refine take_ (i := 1) (N := some 70) (v := ?_) (a' := ?_) #[true, true, true, false, false, true, false, true, false, false, true, false, false] rfl rfl (take_ofW HT_.out HW_.out (by kernel_rfl)) (fun _ _ _ h => h) (Or.inl ⟨by rfl, ?_⟩) hHeld ?_ ?_
                    rotate_left
                    · rintro w' ⟨s0, s1, s2, s3, s4, s5, s6, s7, s8, s9, s10, s11, s12, s13, s14, s15, s16, s17, s18, s19, s20, s21, s22, s23, s24, s25, s26, s27⟩
                      go_simp
                      with_reducible rfl
                    rotate_left
                    · simp only [Act.put, List.setIfInBounds_toArray, List.set_cons_zero, List.set_cons_succ, i64_w, i32_w]
                      rfl
                    refine pure_ (i := 3) (N := some 72) (v := ?_) (a' := ?_) #[true, true, true, true, false, true, false, true, false, false, true, false, false] rfl rfl (any_of HT_.out (by kernel_rfl)) (fun _ _ _ h => h) (Or.inl ⟨by rfl, ?_⟩) ?_ ?_
                    rotate_left
                    · intro w'
                      go_simp
                      with_reducible rfl
                    rotate_left
                    · simp only [Act.put, List.setIfInBounds_toArray, List.set_cons_zero, List.set_cons_succ, i64_w, i32_w]
                      rfl
                    refine take_ (i := 4) (N := some 73) (v := ?_) (a' := ?_) #[true, true, true, true, true, true, false, true, false, false, true, false, false] rfl rfl (take_ofW HT_.out HW_.out (by kernel_rfl)) (fun _ _ _ h => h) (Or.inl ⟨by rfl, ?_⟩) hHeld ?_ ?_
                    rotate_left
                    · rintro w' ⟨s0, s1, s2, s3, s4, s5, s6, s7, s8, s9, s10, s11, s12, s13, s14, s15, s16, s17, s18, s19, s20, s21, s22, s23, s24, s25, s26, s27⟩
                      go_simp
                      with_reducible rfl
                    rotate_left
                    · simp only [Act.put, List.setIfInBounds_toArray, List.set_cons_zero, List.set_cons_succ, i64_w, i32_w]
                      rfl
                    refine take_ (i := 6) (N := some 75) (v := ?_) (a' := ?_) #[true, true, true, true, true, true, true, true, false, false, true, false, false] rfl rfl (take_ofW HT_.out HW_.out (by kernel_rfl)) (fun _ _ _ h => h) (Or.inl ⟨by rfl, ?_⟩) hHeld ?_ ?_
                    rotate_left
                    · rintro w' ⟨s0, s1, s2, s3, s4, s5, s6, s7, s8, s9, s10, s11, s12, s13, s14, s15, s16, s17, s18, s19, s20, s21, s22, s23, s24, s25, s26, s27⟩
                      go_simp
                      with_reducible rfl
                    rotate_left
                    · simp only [Act.put, List.setIfInBounds_toArray, List.set_cons_zero, List.set_cons_succ, i64_w, i32_w]
                      rfl
                    refine pure_ (i := 8) (N := some 77) (v := ?_) (a' := ?_) #[true, true, true, true, true, true, true, true, true, false, true, false, false] rfl rfl (any_of HT_.out (by kernel_rfl)) (fun _ _ _ h => h) (Or.inl ⟨by rfl, ?_⟩) ?_ ?_
                    rotate_left
                    · intro w'
                      go_simp
                      with_reducible rfl
                    rotate_left
                    · simp only [Act.put, List.setIfInBounds_toArray, List.set_cons_zero, List.set_cons_succ, i64_w, i32_w]
                      rfl
                    refine take_ (i := 9) (N := some 78) (v := ?_) (a' := ?_) #[true, true, true, true, true, true, true, true, true, true, true, false, false] rfl rfl (take_ofW HT_.out HW_.out (by kernel_rfl)) (fun _ _ _ h => h) (Or.inl ⟨by rfl, ?_⟩) hHeld ?_ ?_
                    rotate_left
                    · rintro w' ⟨s0, s1, s2, s3, s4, s5, s6, s7, s8, s9, s10, s11, s12, s13, s14, s15, s16, s17, s18, s19, s20, s21, s22, s23, s24, s25, s26, s27⟩
                      go_simp
                      with_reducible rfl
                    rotate_left
                    · simp only [Act.put, List.setIfInBounds_toArray, List.set_cons_zero, List.set_cons_succ, i64_w, i32_w]
                      rfl
                    refine one_ (i := 11) (N := some 80) #[true, true, true, true, true, true, true, true, true, true, true, true, false] rfl rfl (one_of HT_.out (by kernel_rfl)) (by decide) (fun K hK => ?_)
                    refine goes_ Tryd.func18 (by kernel_rfl) rfl #[.agg #[.int .i64 ((rd_T32 l0_2 x7_2).f0), .string ((rd_T32 l0_2 x7_2).f1), .slice A114_2 ((rd_T32 l0_2 x7_2).f2).length c114_2, .bool ((rd_T32 l0_2 x7_2).f3), .bool ((rd_T32 l0_2 x7_2).f4), .slice A114_5 ((rd_T32 l0_2 x7_2).f5).length c114_5, .slice A114_6 ((rd_T32 l0_2 x7_2).f6).length c114_6], .agg #[.int .i64 ((rd_T32 l1_2 x7_2).f0), .string ((rd_T32 l1_2 x7_2).f1), .slice A115_2 ((rd_T32 l1_2 x7_2).f2).length c115_2, .bool ((rd_T32 l1_2 x7_2).f3), .bool ((rd_T32 l1_2 x7_2).f4), .slice A115_5 ((rd_T32 l1_2 x7_2).f5).length c115_5, .slice A115_6 ((rd_T32 l1_2 x7_2).f6).length c115_6], .bool a2] (by rfl) rfl rfl (by (try simp only [List.map_toArray, List.map_cons, List.map_nil]); first | done | rfl | (simp only [List.length_drop, List.length_take]; rfl)) ?_
                    with_reducible refine (ih k2 (by have := HJ3.out; have := HK2.out; omega) ((rd_T32 l0_2 x7_2).f0) ((rd_T32 l0_2 x7_2).f1) _ _ ((rd_T32 l0_2 x7_2).f2) ((rd_T32 l0_2 x7_2).f3) ((rd_T32 l0_2 x7_2).f4) _ _ ((rd_T32 l0_2 x7_2).f5) _ _ ((rd_T32 l0_2 x7_2).f6) ((rd_T32 l1_2 x7_2).f0) ((rd_T32 l1_2 x7_2).f1) _ _ ((rd_T32 l1_2 x7_2).f2) ((rd_T32 l1_2 x7_2).f3) ((rd_T32 l1_2 x7_2).f4) _ _ ((rd_T32 l1_2 x7_2).f5) _ _ ((rd_T32 l1_2 x7_2).f6) a2 true _ ?side1 ?side2 ?side3 ?side4 ?side5 ?side6 ?side7 ?side8 ?side9 ?side10 ?side11 ?side12 A54.out).mono ?_
                    (case side1 => repeat (first | exact (Kd.C_below HR114_2.out HB.out) | (with_reducible refine Kd.C_alloc ?_ _) | (with_reducible refine Kd.C_drewN ?_ _) | (with_reducible refine Kd.C_drew ?_)))
                    (case side2 => exact HC114_2.out)
                    (case side3 => repeat (first | exact (Kd.C_below HR114_5.out HB.out) | (with_reducible refine Kd.C_alloc ?_ _) | (with_reducible refine Kd.C_drewN ?_ _) | (with_reducible refine Kd.C_drew ?_)))
                    (case side4 => exact HC114_5.out)
                    (case side5 => repeat (first | exact (Kd.C_below HR114_6.out HB.out) | (with_reducible refine Kd.C_alloc ?_ _) | (with_reducible refine Kd.C_drewN ?_ _) | (with_reducible refine Kd.C_drew ?_)))
                    (case side6 => exact HC114_6.out)
                    (case side7 => repeat (first | exact (Kd.C_below HR115_2.out HB.out) | (with_reducible refine Kd.C_alloc ?_ _) | (with_reducible refine Kd.C_drewN ?_ _) | (with_reducible refine Kd.C_drew ?_)))
                    (case side8 => exact HC115_2.out)
                    (case side9 => repeat (first | exact (Kd.C_below HR115_5.out HB.out) | (with_reducible refine Kd.C_alloc ?_ _) | (with_reducible refine Kd.C_drewN ?_ _) | (with_reducible refine Kd.C_drew ?_)))
                    (case side10 => exact HC115_5.out)
                    (case side11 => repeat (first | exact (Kd.C_below HR115_6.out HB.out) | (with_reducible refine Kd.C_alloc ?_ _) | (with_reducible refine Kd.C_drewN ?_ _) | (with_reducible refine Kd.C_drew ?_)))
                    (case side12 => exact HC115_6.out)
                    rintro e w59 ⟨rfl, hb⟩
                    refine ⟨_, rfl, ?_⟩
                    have n0_ := Aside0.mk (blk_below (g := gb108) (o := .cells #[.int .i64 a0_0, .string a0_1, .slice (some ad114) l0_2.length c0_2, .bool a0_3, .bool a0_4, .slice A0_5 l0_5.length c0_5, .slice A0_6 l0_6.length c0_6] 32 (0, 0)) (by (with_reducible repeat (first | refine blk_drewN ?_ _ | refine blk_drew ?_ | refine blk_alloc ?_ _)); exact BK108.out) hb)
                    have n1_ := Aside0.mk (blk_below (g := gb109) (o := .cells #[.int .i64 a1_0, .string a1_1, .slice (some ad115) l1_2.length c1_2, .bool a1_3, .bool a1_4, .slice A1_5 l1_5.length c1_5, .slice A1_6 l1_6.length c1_6] 32 (0, 0)) (by (with_reducible repeat (first | refine blk_drewN ?_ _ | refine blk_drew ?_ | refine blk_alloc ?_ _)); exact BK109.out) hb)
                    have n2_ := Aside0.mk (below_step (by repeat (first | (with_reducible first | exact HB.out | apply below_alloc | apply pw_below_drewN | apply below_drew1 | refine below_set ?_ GE108.out | refine below_set ?_ GE109.out) | exact HB.out)) hb)
                    clear BK108
                    clear BK109
                    clear HB
                    have BK108 := n0_
                    have BK109 := n1_
                    have HB := n2_
                    clear n0_ n1_ n2_
                    (try clear hb)
                    (try clear hb2)
                    (try clear hk)
                    (try clear hi)
                    refine hK.out _ _ ⟨(blk_cell BK108.out 0).trans rfl, (blk_cell BK108.out 1).trans rfl, (blk_cell BK108.out 2).trans rfl, (blk_cell BK108.out 3).trans rfl, (blk_cell BK108.out 4).trans rfl, (blk_cell BK108.out 5).trans rfl, (blk_cell BK108.out 6).trans rfl, (blk_cell BK109.out 0).trans rfl, (blk_cell BK109.out 1).trans rfl, (blk_cell BK109.out 2).trans rfl, (blk_cell BK109.out 3).trans rfl, (blk_cell BK109.out 4).trans rfl, (blk_cell BK109.out 5).trans rfl, (blk_cell BK109.out 6).trans rfl, ((HB.out.cell (World.block_lt_of_cell? w _ hw114_0)).trans hw114_0), ((HB.out.cell (World.block_lt_of_cell? w _ hw114_1)).trans hw114_1), ((HB.out.cell (World.block_lt_of_cell? w _ hw114_2)).trans hw114_2), ((HB.out.cell (World.block_lt_of_cell? w _ hw114_3)).trans hw114_3), ((HB.out.cell (World.block_lt_of_cell? w _ hw114_4)).trans hw114_4), ((HB.out.cell (World.block_lt_of_cell? w _ hw114_5)).trans hw114_5), ((HB.out.cell (World.block_lt_of_cell? w _ hw114_6)).trans hw114_6), ((HB.out.cell (World.block_lt_of_cell? w _ hw115_0)).trans hw115_0), ((HB.out.cell (World.block_lt_of_cell? w _ hw115_1)).trans hw115_1), ((HB.out.cell (World.block_lt_of_cell? w _ hw115_2)).trans hw115_2), ((HB.out.cell (World.block_lt_of_cell? w _ hw115_3)).trans hw115_3), ((HB.out.cell (World.block_lt_of_cell? w _ hw115_4)).trans hw115_4), ((HB.out.cell (World.block_lt_of_cell? w _ hw115_5)).trans hw115_5), ((HB.out.cell (World.block_lt_of_cell? w _ hw115_6)).trans hw115_6)⟩ (fun hHeld => ?_)
                    clear hK K
                    refine norm_ (a' := ?_) ?_ ?_
                    rotate_left
                    · show Act.put _ (some 80) _ = _
                      simp only [Act.put, List.setIfInBounds_toArray, List.set_cons_zero, List.set_cons_succ, i64_w, i32_w]
                      rfl
                    refine pure_ (i := 12) (N := some 81) (v := ?_) (a' := ?_) #[true, true, true, true, true, true, true, true, true, true, true, true, true] rfl rfl (any_of HT_.out (by kernel_rfl)) (fun _ _ _ h => h) (Or.inl ⟨by rfl, ?_⟩) ?_ ?_
                    rotate_left
                    · intro w'
                      go_simp
                      with_reducible rfl
                    rotate_left
                    · simp only [Act.put, List.setIfInBounds_toArray, List.set_cons_zero, List.set_cons_succ, i64_w, i32_w]
                      rfl
                    refine done_ (done_of HT_.out (by kernel_rfl)) ?_
                    try go_wp2
                    go_roundg k2
                    case measure => have := HJ3.out; have := HK2.out; omega
                    case rel => exact ⟨(wrap64 (x7_2 + 1)), (by first | rfl | (simp; done) | (simp [*]; done)), H', ⟨by have := HJ3.out; have := HK2.out; omega⟩, ⟨by (with_reducible repeat (first | refine blk_drewN ?_ _ | refine blk_drew ?_ | refine blk_alloc ?_ _)); exact BK108.out⟩, ⟨by (with_reducible repeat (first | refine blk_drewN ?_ _ | refine blk_drew ?_ | refine blk_alloc ?_ _)); exact BK109.out⟩, ⟨by repeat (first | (with_reducible first | exact HB.out | apply below_alloc | apply pw_below_drewN | apply below_drew1 | refine below_set ?_ GE108.out | refine below_set ?_ GE109.out) | exact HB.out)⟩⟩
                  · replace c55 := Bool.eq_false_iff.mpr c55
                    subst c55
                    have H1 : (some false) = some r := by rw [if_neg (show ¬ (false = true) by decide)] at H; exact H
                    clear H
                    have H := H1
                    clear H1
                    obtain rfl := Option.some.inj H
                    have hnb60 := NB108_109.out
                    have hnc60 := NB109_108.out
                    have hcz61_0 : wr.cell? ⟨gb108, 0, none⟩ = some (.int .i64 a0_0) := (blk_cell BK108.out 0).trans rfl
                    have hcz61_1 : wr.cell? ⟨gb108, 1, none⟩ = some (.string a0_1) := (blk_cell BK108.out 1).trans rfl
                    have hcz61_2 : wr.cell? ⟨gb108, 2, none⟩ = some (.slice A0_2 l0_2.length c0_2) := (blk_cell BK108.out 2).trans rfl
                    have hcz61_3 : wr.cell? ⟨gb108, 3, none⟩ = some (.bool a0_3) := (blk_cell BK108.out 3).trans rfl
                    have hcz61_4 : wr.cell? ⟨gb108, 4, none⟩ = some (.bool a0_4) := (blk_cell BK108.out 4).trans rfl
                    have hcz61_5 : wr.cell? ⟨gb108, 5, none⟩ = some (.slice A0_5 l0_5.length c0_5) := (blk_cell BK108.out 5).trans rfl
                    have hcz61_6 : wr.cell? ⟨gb108, 6, none⟩ = some (.slice A0_6 l0_6.length c0_6) := (blk_cell BK108.out 6).trans rfl
                    have hfz61_0 := blk_frozen BK108.out 0
                    have hfz61_1 := blk_frozen BK108.out 1
                    have hfz61_2 := blk_frozen BK108.out 2
                    have hfz61_3 := blk_frozen BK108.out 3
                    have hfz61_4 := blk_frozen BK108.out 4
                    have hfz61_5 := blk_frozen BK108.out 5
                    have hfz61_6 := blk_frozen BK108.out 6
                    try go_wp2
                    have n0_ := Aside0.mk (blk_drew BK108.out)
                    have n1_ := Aside0.mk (blk_drew BK109.out)
                    have n2_ := Aside0.mk (below_drew1 HB.out)
                    clear BK108
                    clear BK109
                    clear HB
                    have BK108 := n0_
                    have BK109 := n1_
                    have HB := n2_
                    clear n0_ n1_ n2_
                    have p114 : 0 ≤ (x7_2 : Int) := of_decide_eq_true (by first | (with_reducible assumption) | assumption)
                    have q114 : x7_2 < (l0_2.length : Int) := of_decide_eq_true (by first | (with_reducible assumption) | assumption)
                    obtain ⟨ad114, A114_2, c114_2, A114_5, c114_5, A114_6, c114_6, e114, hx114_0, hx114_1, hx114_2, hx114_3, hx114_4, hx114_5, hx114_6, hl114_2, hi114_2, hl114_5, hi114_5, hl114_6, hi114_6⟩ := at_T32 HR0_2.out x7_2 p114 q114
                    have hw114_6 := hx114_6
                    have hw114_5 := hx114_5
                    have hw114_4 := hx114_4
                    have hw114_3 := hx114_3
                    have hw114_2 := hx114_2
                    have hw114_1 := hx114_1
                    have hw114_0 := hx114_0
                    cases e114
                    replace hx114_0 := (HB.out.cell (World.block_lt_of_cell? w _ hx114_0)).trans hx114_0
                    replace hx114_1 := (HB.out.cell (World.block_lt_of_cell? w _ hx114_1)).trans hx114_1
                    replace hx114_2 := (HB.out.cell (World.block_lt_of_cell? w _ hx114_2)).trans hx114_2
                    replace hx114_3 := (HB.out.cell (World.block_lt_of_cell? w _ hx114_3)).trans hx114_3
                    replace hx114_4 := (HB.out.cell (World.block_lt_of_cell? w _ hx114_4)).trans hx114_4
                    replace hx114_5 := (HB.out.cell (World.block_lt_of_cell? w _ hx114_5)).trans hx114_5
                    replace hx114_6 := (HB.out.cell (World.block_lt_of_cell? w _ hx114_6)).trans hx114_6
                    have HR114_2 := Aside0.mk hi114_2
                    have HC114_2 := Aside0.mk hl114_2
                    clear hi114_2 hl114_2
                    have HR114_5 := Aside0.mk hi114_5
                    have HC114_5 := Aside0.mk hl114_5
                    clear hi114_5 hl114_5
                    have HR114_6 := Aside0.mk hi114_6
                    have HC114_6 := Aside0.mk hl114_6
                    clear hi114_6 hl114_6
                    replace p114 := eq_true p114
                    replace q114 := eq_true q114
                    have p115 : 0 ≤ (x7_2 : Int) := of_decide_eq_true (by first | (with_reducible assumption) | assumption)
                    have q115 : x7_2 < (l1_2.length : Int) := of_decide_eq_true (by first | (with_reducible assumption) | assumption)
                    obtain ⟨ad115, A115_2, c115_2, A115_5, c115_5, A115_6, c115_6, e115, hx115_0, hx115_1, hx115_2, hx115_3, hx115_4, hx115_5, hx115_6, hl115_2, hi115_2, hl115_5, hi115_5, hl115_6, hi115_6⟩ := at_T32 HR1_2.out x7_2 p115 q115
                    have hw115_6 := hx115_6
                    have hw115_5 := hx115_5
                    have hw115_4 := hx115_4
                    have hw115_3 := hx115_3
                    have hw115_2 := hx115_2
                    have hw115_1 := hx115_1
                    have hw115_0 := hx115_0
                    cases e115
                    replace hx115_0 := (HB.out.cell (World.block_lt_of_cell? w _ hx115_0)).trans hx115_0
                    replace hx115_1 := (HB.out.cell (World.block_lt_of_cell? w _ hx115_1)).trans hx115_1
                    replace hx115_2 := (HB.out.cell (World.block_lt_of_cell? w _ hx115_2)).trans hx115_2
                    replace hx115_3 := (HB.out.cell (World.block_lt_of_cell? w _ hx115_3)).trans hx115_3
                    replace hx115_4 := (HB.out.cell (World.block_lt_of_cell? w _ hx115_4)).trans hx115_4
                    replace hx115_5 := (HB.out.cell (World.block_lt_of_cell? w _ hx115_5)).trans hx115_5
                    replace hx115_6 := (HB.out.cell (World.block_lt_of_cell? w _ hx115_6)).trans hx115_6
                    have HR115_2 := Aside0.mk hi115_2
                    have HC115_2 := Aside0.mk hl115_2
                    clear hi115_2 hl115_2
                    have HR115_5 := Aside0.mk hi115_5
                    have HC115_5 := Aside0.mk hl115_5
                    clear hi115_5 hl115_5
                    have HR115_6 := Aside0.mk hi115_6
                    have HC115_6 := Aside0.mk hl115_6
                    clear hi115_6 hl115_6
                    replace p115 := eq_true p115
                    replace q115 := eq_true q115
                    refine start_ (n := 13) (S := fun w' => w'.cell? ⟨gb108, 0, none⟩ = some (.int .i64 a0_0) ∧ w'.cell? ⟨gb108, 1, none⟩ = some (.string a0_1) ∧ w'.cell? ⟨gb108, 2, none⟩ = some (.slice (some ad114) l0_2.length c0_2) ∧ w'.cell? ⟨gb108, 3, none⟩ = some (.bool a0_3) ∧ w'.cell? ⟨gb108, 4, none⟩ = some (.bool a0_4) ∧ w'.cell? ⟨gb108, 5, none⟩ = some (.slice A0_5 l0_5.length c0_5) ∧ w'.cell? ⟨gb108, 6, none⟩ = some (.slice A0_6 l0_6.length c0_6) ∧ w'.cell? ⟨gb109, 0, none⟩ = some (.int .i64 a1_0) ∧ w'.cell? ⟨gb109, 1, none⟩ = some (.string a1_1) ∧ w'.cell? ⟨gb109, 2, none⟩ = some (.slice (some ad115) l1_2.length c1_2) ∧ w'.cell? ⟨gb109, 3, none⟩ = some (.bool a1_3) ∧ w'.cell? ⟨gb109, 4, none⟩ = some (.bool a1_4) ∧ w'.cell? ⟨gb109, 5, none⟩ = some (.slice A1_5 l1_5.length c1_5) ∧ w'.cell? ⟨gb109, 6, none⟩ = some (.slice A1_6 l1_6.length c1_6) ∧ w'.cell? (ad114.add ((x7_2).toNat * 7)) = some (.int .i64 ((rd_T32 l0_2 x7_2).f0)) ∧ w'.cell? ⟨(ad114.add ((x7_2).toNat * 7)).block, (ad114.add ((x7_2).toNat * 7)).off + 1, none⟩ = some (.string ((rd_T32 l0_2 x7_2).f1)) ∧ w'.cell? ⟨(ad114.add ((x7_2).toNat * 7)).block, (ad114.add ((x7_2).toNat * 7)).off + 2, none⟩ = some (.slice A114_2 ((rd_T32 l0_2 x7_2).f2).length c114_2) ∧ w'.cell? ⟨(ad114.add ((x7_2).toNat * 7)).block, (ad114.add ((x7_2).toNat * 7)).off + 3, none⟩ = some (.bool ((rd_T32 l0_2 x7_2).f3)) ∧ w'.cell? ⟨(ad114.add ((x7_2).toNat * 7)).block, (ad114.add ((x7_2).toNat * 7)).off + 4, none⟩ = some (.bool ((rd_T32 l0_2 x7_2).f4)) ∧ w'.cell? ⟨(ad114.add ((x7_2).toNat * 7)).block, (ad114.add ((x7_2).toNat * 7)).off + 5, none⟩ = some (.slice A114_5 ((rd_T32 l0_2 x7_2).f5).length c114_5) ∧ w'.cell? ⟨(ad114.add ((x7_2).toNat * 7)).block, (ad114.add ((x7_2).toNat * 7)).off + 6, none⟩ = some (.slice A114_6 ((rd_T32 l0_2 x7_2).f6).length c114_6) ∧ w'.cell? (ad115.add ((x7_2).toNat * 7)) = some (.int .i64 ((rd_T32 l1_2 x7_2).f0)) ∧ w'.cell? ⟨(ad115.add ((x7_2).toNat * 7)).block, (ad115.add ((x7_2).toNat * 7)).off + 1, none⟩ = some (.string ((rd_T32 l1_2 x7_2).f1)) ∧ w'.cell? ⟨(ad115.add ((x7_2).toNat * 7)).block, (ad115.add ((x7_2).toNat * 7)).off + 2, none⟩ = some (.slice A115_2 ((rd_T32 l1_2 x7_2).f2).length c115_2) ∧ w'.cell? ⟨(ad115.add ((x7_2).toNat * 7)).block, (ad115.add ((x7_2).toNat * 7)).off + 3, none⟩ = some (.bool ((rd_T32 l1_2 x7_2).f3)) ∧ w'.cell? ⟨(ad115.add ((x7_2).toNat * 7)).block, (ad115.add ((x7_2).toNat * 7)).off + 4, none⟩ = some (.bool ((rd_T32 l1_2 x7_2).f4)) ∧ w'.cell? ⟨(ad115.add ((x7_2).toNat * 7)).block, (ad115.add ((x7_2).toNat * 7)).off + 5, none⟩ = some (.slice A115_5 ((rd_T32 l1_2 x7_2).f5).length c115_5) ∧ w'.cell? ⟨(ad115.add ((x7_2).toNat * 7)).block, (ad115.add ((x7_2).toNat * 7)).off + 6, none⟩ = some (.slice A115_6 ((rd_T32 l1_2 x7_2).f6).length c115_6)) (ds := []) #[false, false, false, false, false, false, false, false, false, false, false, false, false] (by kernel_rfl) rfl rfl ⟨(blk_cell BK108.out 0).trans rfl, (blk_cell BK108.out 1).trans rfl, (blk_cell BK108.out 2).trans rfl, (blk_cell BK108.out 3).trans rfl, (blk_cell BK108.out 4).trans rfl, (blk_cell BK108.out 5).trans rfl, (blk_cell BK108.out 6).trans rfl, (blk_cell BK109.out 0).trans rfl, (blk_cell BK109.out 1).trans rfl, (blk_cell BK109.out 2).trans rfl, (blk_cell BK109.out 3).trans rfl, (blk_cell BK109.out 4).trans rfl, (blk_cell BK109.out 5).trans rfl, (blk_cell BK109.out 6).trans rfl, ((HB.out.cell (World.block_lt_of_cell? w _ hw114_0)).trans hw114_0), ((HB.out.cell (World.block_lt_of_cell? w _ hw114_1)).trans hw114_1), ((HB.out.cell (World.block_lt_of_cell? w _ hw114_2)).trans hw114_2), ((HB.out.cell (World.block_lt_of_cell? w _ hw114_3)).trans hw114_3), ((HB.out.cell (World.block_lt_of_cell? w _ hw114_4)).trans hw114_4), ((HB.out.cell (World.block_lt_of_cell? w _ hw114_5)).trans hw114_5), ((HB.out.cell (World.block_lt_of_cell? w _ hw114_6)).trans hw114_6), ((HB.out.cell (World.block_lt_of_cell? w _ hw115_0)).trans hw115_0), ((HB.out.cell (World.block_lt_of_cell? w _ hw115_1)).trans hw115_1), ((HB.out.cell (World.block_lt_of_cell? w _ hw115_2)).trans hw115_2), ((HB.out.cell (World.block_lt_of_cell? w _ hw115_3)).trans hw115_3), ((HB.out.cell (World.block_lt_of_cell? w _ hw115_4)).trans hw115_4), ((HB.out.cell (World.block_lt_of_cell? w _ hw115_5)).trans hw115_5), ((HB.out.cell (World.block_lt_of_cell? w _ hw115_6)).trans hw115_6)⟩ (fun hHeld => ?_); refine with_tabW galleyref9_like.tab6 galleyref9_like.bits6 (fun HT_ HW_ => ?_)
                    generalize wr.drew = w62 at BK108 BK109 HB HR114_2 HR114_5 HR114_6 HR115_2 HR115_5 HR115_6 hx114_0 hx114_1 hx114_2 hx114_3 hx114_4 hx114_5 hx114_6 hx115_0 hx115_1 hx115_2 hx115_3 hx115_4 hx115_5 hx115_6 hHeld ⊢
                    refine pure_ (i := 0) (N := some 69) (v := ?_) (a' := ?_) #[true, false, false, false, false, false, false, false, false, false, false, false, false] rfl rfl (any_of HT_.out (by kernel_rfl)) (fun _ _ _ h => h) (Or.inl ⟨by rfl, ?_⟩) ?_ ?_
                    rotate_left
                    · intro w'
                      go_simp
                      with_reducible rfl
                    rotate_left
                    · simp only [Act.put, List.setIfInBounds_toArray, List.set_cons_zero, List.set_cons_succ, i64_w, i32_w]
                      rfl
                    refine pure_ (i := 2) (N := some 71) (v := ?_) (a' := ?_) #[true, false, true, false, false, false, false, false, false, false, false, false, false] rfl rfl (any_of HT_.out (by kernel_rfl)) (fun _ _ _ h => h) (Or.inl ⟨by rfl, ?_⟩) ?_ ?_
                    rotate_left
                    · intro w'
                      go_simp
                      with_reducible rfl
                    rotate_left
                    · simp only [Act.put, List.setIfInBounds_toArray, List.set_cons_zero, List.set_cons_succ, i64_w, i32_w]
                      rfl
                    refine pure_ (i := 5) (N := some 74) (v := ?_) (a' := ?_) #[true, false, true, false, false, true, false, false, false, false, false, false, false] rfl rfl (any_of HT_.out (by kernel_rfl)) (fun _ _ _ h => h) (Or.inl ⟨by rfl, ?_⟩) ?_ ?_
                    rotate_left
                    · intro w'
                      go_simp
                      with_reducible rfl
                    rotate_left
                    · simp only [Act.put, List.setIfInBounds_toArray, List.set_cons_zero, List.set_cons_succ, i64_w, i32_w]
                      rfl
                    refine pure_ (i := 7) (N := some 76) (v := ?_) (a' := ?_) #[true, false, true, false, false, true, false, true, false, false, false, false, false] rfl rfl (any_of HT_.out (by kernel_rfl)) (fun _ _ _ h => h) (Or.inl ⟨by rfl, ?_⟩) ?_ ?_
                    rotate_left
                    · intro w'
                      go_simp
                      with_reducible rfl
                    rotate_left
                    · simp only [Act.put, List.setIfInBounds_toArray, List.set_cons_zero, List.set_cons_succ, i64_w, i32_w]
                      rfl
                    refine pure_ (i := 10) (N := some 79) (v := ?_) (a' := ?_) #[true, false, true, false, false, true, false, true, false, false, true, false, false] rfl rfl (any_of HT_.out (by kernel_rfl)) (fun _ _ _ h => h) (Or.inl ⟨by rfl, ?_⟩) ?_ ?_
                    rotate_left
                    · intro w'
                      go_simp
                      with_reducible rfl
                    rotate_left
                    · simp only [Act.put, List.setIfInBounds_toArray, List.set_cons_zero, List.set_cons_succ, i64_w, i32_w]
                      rfl
                    refine take_ (i := 1) (N := some 70) (v := ?_) (a' := ?_) #[true, true, true, false, false, true, false, true, false, false, true, false, false] rfl rfl (take_ofW HT_.out HW_.out (by kernel_rfl)) (fun _ _ _ h => h) (Or.inl ⟨by rfl, ?_⟩) hHeld ?_ ?_
                    rotate_left
                    · rintro w' ⟨s0, s1, s2, s3, s4, s5, s6, s7, s8, s9, s10, s11, s12, s13, s14, s15, s16, s17, s18, s19, s20, s21, s22, s23, s24, s25, s26, s27⟩
                      go_simp
                      with_reducible rfl
                    rotate_left
                    · simp only [Act.put, List.setIfInBounds_toArray, List.set_cons_zero, List.set_cons_succ, i64_w, i32_w]
                      rfl
                    refine pure_ (i := 3) (N := some 72) (v := ?_) (a' := ?_) #[true, true, true, true, false, true, false, true, false, false, true, false, false] rfl rfl (any_of HT_.out (by kernel_rfl)) (fun _ _ _ h => h) (Or.inl ⟨by rfl, ?_⟩) ?_ ?_
                    rotate_left
                    · intro w'
                      go_simp
                      with_reducible rfl
                    rotate_left
                    · simp only [Act.put, List.setIfInBounds_toArray, List.set_cons_zero, List.set_cons_succ, i64_w, i32_w]
                      rfl
                    refine take_ (i := 4) (N := some 73) (v := ?_) (a' := ?_) #[true, true, true, true, true, true, false, true, false, false, true, false, false] rfl rfl (take_ofW HT_.out HW_.out (by kernel_rfl)) (fun _ _ _ h => h) (Or.inl ⟨by rfl, ?_⟩) hHeld ?_ ?_
                    rotate_left
                    · rintro w' ⟨s0, s1, s2, s3, s4, s5, s6, s7, s8, s9, s10, s11, s12, s13, s14, s15, s16, s17, s18, s19, s20, s21, s22, s23, s24, s25, s26, s27⟩
                      go_simp
                      with_reducible rfl
                    rotate_left
                    · simp only [Act.put, List.setIfInBounds_toArray, List.set_cons_zero, List.set_cons_succ, i64_w, i32_w]
                      rfl
                    refine take_ (i := 6) (N := some 75) (v := ?_) (a' := ?_) #[true, true, true, true, true, true, true, true, false, false, true, false, false] rfl rfl (take_ofW HT_.out HW_.out (by kernel_rfl)) (fun _ _ _ h => h) (Or.inl ⟨by rfl, ?_⟩) hHeld ?_ ?_
                    rotate_left
                    · rintro w' ⟨s0, s1, s2, s3, s4, s5, s6, s7, s8, s9, s10, s11, s12, s13, s14, s15, s16, s17, s18, s19, s20, s21, s22, s23, s24, s25, s26, s27⟩
                      go_simp
                      with_reducible rfl
                    rotate_left
                    · simp only [Act.put, List.setIfInBounds_toArray, List.set_cons_zero, List.set_cons_succ, i64_w, i32_w]
                      rfl
                    refine pure_ (i := 8) (N := some 77) (v := ?_) (a' := ?_) #[true, true, true, true, true, true, true, true, true, false, true, false, false] rfl rfl (any_of HT_.out (by kernel_rfl)) (fun _ _ _ h => h) (Or.inl ⟨by rfl, ?_⟩) ?_ ?_
                    rotate_left
                    · intro w'
                      go_simp
                      with_reducible rfl
                    rotate_left
                    · simp only [Act.put, List.setIfInBounds_toArray, List.set_cons_zero, List.set_cons_succ, i64_w, i32_w]
                      rfl
                    refine take_ (i := 9) (N := some 78) (v := ?_) (a' := ?_) #[true, true, true, true, true, true, true, true, true, true, true, false, false] rfl rfl (take_ofW HT_.out HW_.out (by kernel_rfl)) (fun _ _ _ h => h) (Or.inl ⟨by rfl, ?_⟩) hHeld ?_ ?_
                    rotate_left
                    · rintro w' ⟨s0, s1, s2, s3, s4, s5, s6, s7, s8, s9, s10, s11, s12, s13, s14, s15, s16, s17, s18, s19, s20, s21, s22, s23, s24, s25, s26, s27⟩
                      go_simp
                      with_reducible rfl
                    rotate_left
                    · simp only [Act.put, List.setIfInBounds_toArray, List.set_cons_zero, List.set_cons_succ, i64_w, i32_w]
                      rfl
                    refine one_ (i := 11) (N := some 80) #[true, true, true, true, true, true, true, true, true, true, true, true, false] rfl rfl (one_of HT_.out (by kernel_rfl)) (by decide) (fun K hK => ?_)
                    refine goes_ Tryd.func18 (by kernel_rfl) rfl #[.agg #[.int .i64 ((rd_T32 l0_2 x7_2).f0), .string ((rd_T32 l0_2 x7_2).f1), .slice A114_2 ((rd_T32 l0_2 x7_2).f2).length c114_2, .bool ((rd_T32 l0_2 x7_2).f3), .bool ((rd_T32 l0_2 x7_2).f4), .slice A114_5 ((rd_T32 l0_2 x7_2).f5).length c114_5, .slice A114_6 ((rd_T32 l0_2 x7_2).f6).length c114_6], .agg #[.int .i64 ((rd_T32 l1_2 x7_2).f0), .string ((rd_T32 l1_2 x7_2).f1), .slice A115_2 ((rd_T32 l1_2 x7_2).f2).length c115_2, .bool ((rd_T32 l1_2 x7_2).f3), .bool ((rd_T32 l1_2 x7_2).f4), .slice A115_5 ((rd_T32 l1_2 x7_2).f5).length c115_5, .slice A115_6 ((rd_T32 l1_2 x7_2).f6).length c115_6], .bool a2] (by rfl) rfl rfl (by (try simp only [List.map_toArray, List.map_cons, List.map_nil]); first | done | rfl | (simp only [List.length_drop, List.length_take]; rfl)) ?_
                    with_reducible refine (ih k2 (by have := HJ3.out; have := HK2.out; omega) ((rd_T32 l0_2 x7_2).f0) ((rd_T32 l0_2 x7_2).f1) _ _ ((rd_T32 l0_2 x7_2).f2) ((rd_T32 l0_2 x7_2).f3) ((rd_T32 l0_2 x7_2).f4) _ _ ((rd_T32 l0_2 x7_2).f5) _ _ ((rd_T32 l0_2 x7_2).f6) ((rd_T32 l1_2 x7_2).f0) ((rd_T32 l1_2 x7_2).f1) _ _ ((rd_T32 l1_2 x7_2).f2) ((rd_T32 l1_2 x7_2).f3) ((rd_T32 l1_2 x7_2).f4) _ _ ((rd_T32 l1_2 x7_2).f5) _ _ ((rd_T32 l1_2 x7_2).f6) a2 false _ ?side1 ?side2 ?side3 ?side4 ?side5 ?side6 ?side7 ?side8 ?side9 ?side10 ?side11 ?side12 A54.out).mono ?_
                    (case side1 => repeat (first | exact (Kd.C_below HR114_2.out HB.out) | (with_reducible refine Kd.C_alloc ?_ _) | (with_reducible refine Kd.C_drewN ?_ _) | (with_reducible refine Kd.C_drew ?_)))
                    (case side2 => exact HC114_2.out)
                    (case side3 => repeat (first | exact (Kd.C_below HR114_5.out HB.out) | (with_reducible refine Kd.C_alloc ?_ _) | (with_reducible refine Kd.C_drewN ?_ _) | (with_reducible refine Kd.C_drew ?_)))
                    (case side4 => exact HC114_5.out)
                    (case side5 => repeat (first | exact (Kd.C_below HR114_6.out HB.out) | (with_reducible refine Kd.C_alloc ?_ _) | (with_reducible refine Kd.C_drewN ?_ _) | (with_reducible refine Kd.C_drew ?_)))
                    (case side6 => exact HC114_6.out)
                    (case side7 => repeat (first | exact (Kd.C_below HR115_2.out HB.out) | (with_reducible refine Kd.C_alloc ?_ _) | (with_reducible refine Kd.C_drewN ?_ _) | (with_reducible refine Kd.C_drew ?_)))
                    (case side8 => exact HC115_2.out)
                    (case side9 => repeat (first | exact (Kd.C_below HR115_5.out HB.out) | (with_reducible refine Kd.C_alloc ?_ _) | (with_reducible refine Kd.C_drewN ?_ _) | (with_reducible refine Kd.C_drew ?_)))
                    (case side10 => exact HC115_5.out)
                    (case side11 => repeat (first | exact (Kd.C_below HR115_6.out HB.out) | (with_reducible refine Kd.C_alloc ?_ _) | (with_reducible refine Kd.C_drewN ?_ _) | (with_reducible refine Kd.C_drew ?_)))
                    (case side12 => exact HC115_6.out)
                    rintro e w63 ⟨rfl, hb⟩
                    refine ⟨_, rfl, ?_⟩
                    have n0_ := Aside0.mk (blk_below (g := gb108) (o := .cells #[.int .i64 a0_0, .string a0_1, .slice (some ad114) l0_2.length c0_2, .bool a0_3, .bool a0_4, .slice A0_5 l0_5.length c0_5, .slice A0_6 l0_6.length c0_6] 32 (0, 0)) (by (with_reducible repeat (first | refine blk_drewN ?_ _ | refine blk_drew ?_ | refine blk_alloc ?_ _)); exact BK108.out) hb)
                    have n1_ := Aside0.mk (blk_below (g := gb109) (o := .cells #[.int .i64 a1_0, .string a1_1, .slice (some ad115) l1_2.length c1_2, .bool a1_3, .bool a1_4, .slice A1_5 l1_5.length c1_5, .slice A1_6 l1_6.length c1_6] 32 (0, 0)) (by (with_reducible repeat (first | refine blk_drewN ?_ _ | refine blk_drew ?_ | refine blk_alloc ?_ _)); exact BK109.out) hb)
                    have n2_ := Aside0.mk (below_step (by repeat (first | (with_reducible first | exact HB.out | apply below_alloc | apply pw_below_drewN | apply below_drew1 | refine below_set ?_ GE108.out | refine below_set ?_ GE109.out) | exact HB.out)) hb)
                    clear BK108
                    clear BK109
                    clear HB
                    have BK108 := n0_
                    have BK109 := n1_
                    have HB := n2_
                    clear n0_ n1_ n2_
                    (try clear hb)
                    (try clear hb2)
                    (try clear hk)
                    (try clear hi)
                    refine hK.out _ _ ⟨(blk_cell BK108.out 0).trans rfl, (blk_cell BK108.out 1).trans rfl, (blk_cell BK108.out 2).trans rfl, (blk_cell BK108.out 3).trans rfl, (blk_cell BK108.out 4).trans rfl, (blk_cell BK108.out 5).trans rfl, (blk_cell BK108.out 6).trans rfl, (blk_cell BK109.out 0).trans rfl, (blk_cell BK109.out 1).trans rfl, (blk_cell BK109.out 2).trans rfl, (blk_cell BK109.out 3).trans rfl, (blk_cell BK109.out 4).trans rfl, (blk_cell BK109.out 5).trans rfl, (blk_cell BK109.out 6).trans rfl, ((HB.out.cell (World.block_lt_of_cell? w _ hw114_0)).trans hw114_0), ((HB.out.cell (World.block_lt_of_cell? w _ hw114_1)).trans hw114_1), ((HB.out.cell (World.block_lt_of_cell? w _ hw114_2)).trans hw114_2), ((HB.out.cell (World.block_lt_of_cell? w _ hw114_3)).trans hw114_3), ((HB.out.cell (World.block_lt_of_cell? w _ hw114_4)).trans hw114_4), ((HB.out.cell (World.block_lt_of_cell? w _ hw114_5)).trans hw114_5), ((HB.out.cell (World.block_lt_of_cell? w _ hw114_6)).trans hw114_6), ((HB.out.cell (World.block_lt_of_cell? w _ hw115_0)).trans hw115_0), ((HB.out.cell (World.block_lt_of_cell? w _ hw115_1)).trans hw115_1), ((HB.out.cell (World.block_lt_of_cell? w _ hw115_2)).trans hw115_2), ((HB.out.cell (World.block_lt_of_cell? w _ hw115_3)).trans hw115_3), ((HB.out.cell (World.block_lt_of_cell? w _ hw115_4)).trans hw115_4), ((HB.out.cell (World.block_lt_of_cell? w _ hw115_5)).trans hw115_5), ((HB.out.cell (World.block_lt_of_cell? w _ hw115_6)).trans hw115_6)⟩ (fun hHeld => ?_)
                    clear hK K
                    refine norm_ (a' := ?_) ?_ ?_
                    rotate_left
                    · show Act.put _ (some 80) _ = _
                      simp only [Act.put, List.setIfInBounds_toArray, List.set_cons_zero, List.set_cons_succ, i64_w, i32_w]
                      rfl
                    refine pure_ (i := 12) (N := some 81) (v := ?_) (a' := ?_) #[true, true, true, true, true, true, true, true, true, true, true, true, true] rfl rfl (any_of HT_.out (by kernel_rfl)) (fun _ _ _ h => h) (Or.inl ⟨by rfl, ?_⟩) ?_ ?_
                    rotate_left
                    · intro w'
                      go_simp
                      with_reducible rfl
                    rotate_left
                    · simp only [Act.put, List.setIfInBounds_toArray, List.set_cons_zero, List.set_cons_succ, i64_w, i32_w]
                      rfl
                    refine done_ (done_of HT_.out (by kernel_rfl)) ?_
                    try go_wp2
                    go_ret
                    exact ⟨by first | rfl | (simp [errW_none, errW_some] <;> rfl) | (simp [*, errW_none, errW_some] <;> rfl), by repeat (first | (with_reducible first | exact HB.out | apply below_alloc | apply pw_below_drewN | apply below_drew1 | refine below_set ?_ GE108.out | refine below_set ?_ GE109.out) | exact HB.out)⟩
                · rw [if_neg c53] at H
                  exact absurd H (by simp)
              · rw [if_neg c52] at H
                exact absurd H (by simp)
            · rw [if_neg c51] at H
              have c51b0 : decide (x7_2 < (l0_2.length : Int)) = false := decide_eq_false c51
              clear c51
              obtain rfl := Option.some.inj H
              have hnb64 := NB108_109.out
              have hnc64 := NB109_108.out
              have hcz65_0 : wr.cell? ⟨gb108, 0, none⟩ = some (.int .i64 a0_0) := (blk_cell BK108.out 0).trans rfl
              have hcz65_1 : wr.cell? ⟨gb108, 1, none⟩ = some (.string a0_1) := (blk_cell BK108.out 1).trans rfl
              have hcz65_2 : wr.cell? ⟨gb108, 2, none⟩ = some (.slice A0_2 l0_2.length c0_2) := (blk_cell BK108.out 2).trans rfl
              have hcz65_3 : wr.cell? ⟨gb108, 3, none⟩ = some (.bool a0_3) := (blk_cell BK108.out 3).trans rfl
              have hcz65_4 : wr.cell? ⟨gb108, 4, none⟩ = some (.bool a0_4) := (blk_cell BK108.out 4).trans rfl
              have hcz65_5 : wr.cell? ⟨gb108, 5, none⟩ = some (.slice A0_5 l0_5.length c0_5) := (blk_cell BK108.out 5).trans rfl
              have hcz65_6 : wr.cell? ⟨gb108, 6, none⟩ = some (.slice A0_6 l0_6.length c0_6) := (blk_cell BK108.out 6).trans rfl
              have hfz65_0 := blk_frozen BK108.out 0
              have hfz65_1 := blk_frozen BK108.out 1
              have hfz65_2 := blk_frozen BK108.out 2
              have hfz65_3 := blk_frozen BK108.out 3
              have hfz65_4 := blk_frozen BK108.out 4
              have hfz65_5 := blk_frozen BK108.out 5
              have hfz65_6 := blk_frozen BK108.out 6
              go_wp2
              go_ret
              exact ⟨by first | rfl | (simp [errW_none, errW_some] <;> rfl) | (simp [*, errW_none, errW_some] <;> rfl), by repeat (first | (with_reducible first | exact HB.out | apply below_alloc | apply pw_below_drewN | apply below_drew1 | refine below_set ?_ GE108.out | refine below_set ?_ GE109.out) | exact HB.out)⟩

end Go.Proofs.YtjlnlonioknkhaaDoor.PL

/- tree.alike: with slices.EqualFunc over its closure: two trees are alike just if their plain function says so. -/
import Derived.Test.YtjlnlonioknkhaaHEv
import Derived.Test.YtjlnlonioknkhaaPAx1
import Derived.Test.YtjlnlonioknkhaaHA1
namespace Go.Proofs.Ytjlnlonioknkhaa.PA
open Go.RowKit Go.Proofs.YtjlnlonioknkhaaW.PrintWords Go.Proofs.YtjlnlonioknkhaaW.PrintLast Go.Proofs.YtjlnlonioknkhaaW.PrintMore
set_option linter.unusedVariables false
set_option linter.unusedSimpArgs false

/-! ### lists of texts -/
def sEq : List ByteArray → List ByteArray → Bool
  | [], [] => true
  | a :: r, b :: s => (a.toList == b.toList) && sEq r s
  | _, _ => false
theorem sEq_length : ∀ (l m : List ByteArray), sEq l m = true → l.length = m.length
  | [], [], _ => rfl
  | [], _ :: _, h => by simp [sEq] at h
  | _ :: _, [], h => by simp [sEq] at h
  | a :: r, b :: s, h => by simp only [sEq, Bool.and_eq_true] at h; simp [sEq_length r s h.2]
theorem sEq_of_len (l m : List ByteArray) (h : l.length ≠ m.length) : sEq l m = false := by
  cases hs : sEq l m
  · rfl
  · exact absurd (sEq_length l m hs) h
theorem sEq_drop (l m : List ByteArray) (i : Nat) (h : i < l.length) (h' : i < m.length) : sEq (l.drop i) (m.drop i) = ((l[i].toList == m[i].toList) && sEq (l.drop (i + 1)) (m.drop (i + 1))) := by
  rw [List.drop_eq_getElem_cons h, List.drop_eq_getElem_cons h']; rfl
theorem rdOf_nat (l : List ByteArray) (i : Nat) (h : i < l.length) : rdOf ByteArray.empty l (i : Int) = l[i] := by simp [rdOf, List.getD_eq_getElem?_getD, h]
theorem equal_loop (l m : List ByteArray) (hlm : l.length = m.length) (hn : l.length ≤ 9223372036854775807) (d : Nat) : ∀ (k i : Nat), l.length - i = d → i ≤ l.length → d < k →
    slices_Equal_string_string.l0 k l m (l.length : Int) (i : Int) = some (sEq (l.drop i) (m.drop i)) := by
  induction d with
  | zero =>
    intro k i hd hi hk
    obtain ⟨k, rfl⟩ : ∃ q, k = q + 1 := ⟨k - 1, by omega⟩
    simp only [slices_Equal_string_string.l0]
    rw [if_neg (by omega), List.drop_eq_nil_of_le (by omega), List.drop_eq_nil_of_le (by omega)]
    rfl
  | succ d ih =>
    intro k i hd hi hk
    obtain ⟨k, rfl⟩ : ∃ q, k = q + 1 := ⟨k - 1, by omega⟩
    have hil : i < l.length := by omega
    have him : i < m.length := by omega
    simp only [slices_Equal_string_string.l0]
    rw [if_pos (by omega), if_pos (by omega), if_pos (by omega), if_pos (by omega), rdOf_nat l i hil, rdOf_nat m i him, sEq_drop l m i hil him]
    by_cases e : l[i].toList = m[i].toList
    · rw [if_pos e, wrap_next hil hn, ih k (i + 1) (by omega) (by omega) (by omega)]
      simp [e]
    · rw [if_neg e]
      simp [e]
theorem equal_comes (l m : List ByteArray) (hn : l.length ≤ 9223372036854775807) : slices_Equal_string_string.f (l.length + 1) l m = some (sEq l m) := by
  unfold slices_Equal_string_string.f
  by_cases e : l.length = m.length
  · rw [if_pos (by omega)]
    exact equal_loop l m e hn l.length (l.length + 1) 0 (by omega) (by omega) (by omega)
  · rw [if_neg (by omega), sEq_of_len l m e]
theorem sEq_calls (A0 : Option Addr) (c0 : Nat) (l0 : List ByteArray) (A1 : Option Addr) (c1 : Nat) (l1 : List ByteArray) (w : World) (hr0 : Kd.C Kd.string w A0 l0.length l0) (hc0 : l0.length ≤ c0) (hr1 : Kd.C Kd.string w A1 l1.length l1) (hc1 : l1.length ≤ c1) :
    Calls Try.prog 53 #[.slice A0 l0.length c0, .slice A1 l1.length c1] w fun e w' => e = .returned (.bool (sEq l0 l1)) ∧ Drawn0 w w' :=
  slices_Equal_string_string.calls _ A0 c0 l0 A1 c1 l1 _ w hr0 hc0 hr1 hc1 (equal_comes l0 l1 hr0.2.1)

/-! ### trees that are alike -/
mutual
def likeB (br : Bool) : S26 → S26 → Bool
  | ⟨a0, a1, a2, a3, a4, a5, a6⟩, y => (a0 == y.f0) && (a1.toList == y.f1.toList) && (a4 == y.f4) && (!br || a3 == y.f3) && sEq a5 y.f5 && sEq a6 y.f6 && likeL br a2 y.f2
def likeL (br : Bool) : List S26 → List S26 → Bool
  | [], [] => true
  | x :: r, y :: s => likeB br x y && likeL br r s
  | _, _ => false
end
theorem likeB_eq (br : Bool) (x y : S26) : likeB br x y = ((x.f0 == y.f0) && (x.f1.toList == y.f1.toList) && (x.f4 == y.f4) && (!br || x.f3 == y.f3) && sEq x.f5 y.f5 && sEq x.f6 y.f6 && likeL br x.f2 y.f2) := by cases x; rfl
theorem likeL_length (br : Bool) : ∀ (l m : List S26), likeL br l m = true → l.length = m.length
  | [], [], _ => rfl
  | [], _ :: _, h => by simp [likeL] at h
  | _ :: _, [], h => by simp [likeL] at h
  | a :: r, b :: s, h => by simp only [likeL, Bool.and_eq_true] at h; simp [likeL_length br r s h.2]
theorem likeL_of_len (br : Bool) (l m : List S26) (h : l.length ≠ m.length) : likeL br l m = false := by
  cases hs : likeL br l m
  · rfl
  · exact absurd (likeL_length br l m hs) h
theorem likeL_drop (br : Bool) (l m : List S26) (i : Nat) (h : i < l.length) (h' : i < m.length) : likeL br (l.drop i) (m.drop i) = (likeB br l[i] m[i] && likeL br (l.drop (i + 1)) (m.drop (i + 1))) := by
  rw [List.drop_eq_getElem_cons h, List.drop_eq_getElem_cons h']; rfl

/-- A node's own rows, read. -/
structure Nd (w : World) (x : S26) (A2 : Option Addr) (c2 : Nat) (A5 : Option Addr) (c5 : Nat) (A6 : Option Addr) (c6 : Nat) : Prop where
  g2 : Kd.C k26 w A2 x.f2.length x.f2
  l2 : x.f2.length ≤ c2
  g5 : Kd.C Kd.string w A5 x.f5.length x.f5
  l5 : x.f5.length ≤ c5
  g6 : Kd.C Kd.string w A6 x.f6.length x.f6
  l6 : x.f6.length ≤ c6
theorem Nd.below {w w' : World} {x : S26} {A2 A5 A6 : Option Addr} {c2 c5 c6 : Nat} (h : Nd w x A2 c2 A5 c5 A6 c6) (hb : Below w.heap.size w w') : Nd w' x A2 c2 A5 c5 A6 c6 :=
  ⟨Kd.C_below h.g2 hb, h.l2, Kd.C_below h.g5 hb, h.l5, Kd.C_below h.g6 hb, h.l6⟩
/-- An element of a row of nodes that is read. -/
theorem Nd.at_ {w : World} {A : Option Addr} {l : List S26} (h : Kd.C k26 w A l.length l) (i : Nat) (hi : i < l.length) :
    ∃ ad A2 c2 A5 c5 A6 c6, A = some ad ∧ Nd w l[i] A2 c2 A5 c5 A6 c6 ∧ ∀ w', Below w.heap.size w w' →
      w'.cell? (ad.add (i * 7)) = some (.int .i64 l[i].f0) ∧ w'.cell? ⟨(ad.add (i * 7)).block, (ad.add (i * 7)).off + 1, none⟩ = some (.string l[i].f1) ∧ w'.cell? ⟨(ad.add (i * 7)).block, (ad.add (i * 7)).off + 2, none⟩ = some (.slice A2 l[i].f2.length c2) ∧
      w'.cell? ⟨(ad.add (i * 7)).block, (ad.add (i * 7)).off + 3, none⟩ = some (.bool l[i].f3) ∧ w'.cell? ⟨(ad.add (i * 7)).block, (ad.add (i * 7)).off + 4, none⟩ = some (.bool l[i].f4) ∧
      w'.cell? ⟨(ad.add (i * 7)).block, (ad.add (i * 7)).off + 5, none⟩ = some (.slice A5 l[i].f5.length c5) ∧ w'.cell? ⟨(ad.add (i * 7)).block, (ad.add (i * 7)).off + 6, none⟩ = some (.slice A6 l[i].f6.length c6) := by
  obtain ⟨ad, B2, d2, B5, d5, B6, d6, e0, q0, q1, q2, q3, q4, q5, q6, l2, g2, l5, g5, l6, g6⟩ := at_T26 h (i : Int) (by omega) (by omega)
  rw [rd26 _ _ hi] at q0 q1 q2 q3 q4 q5 q6 l2 g2 l5 g5 l6 g6
  simp only [Int.toNat_natCast] at q0 q1 q2 q3 q4 q5 q6
  refine ⟨ad, B2, d2, B5, d5, B6, d6, e0, ⟨g2, l2, g5, l5, g6, l6⟩, fun w' hb => ?_⟩
  exact ⟨(hb.cell (World.block_lt_of_cell? _ _ q0)).trans q0, (hb.cell (World.block_lt_of_cell? _ _ q1)).trans q1, (hb.cell (World.block_lt_of_cell? _ _ q2)).trans q2, (hb.cell (World.block_lt_of_cell? _ _ q3)).trans q3, (hb.cell (World.block_lt_of_cell? _ _ q4)).trans q4, (hb.cell (World.block_lt_of_cell? _ _ q5)).trans q5, (hb.cell (World.block_lt_of_cell? _ _ q6)).trans q6⟩

/-- What a call of alike comes to. -/
def AlikeAt (br : Bool) (x y : S26) : Prop :=
  ∀ (A2 : Option Addr) (c2 : Nat) (A5 : Option Addr) (c5 : Nat) (A6 : Option Addr) (c6 : Nat) (AB2 : Option Addr) (cB2 : Nat) (AB5 : Option Addr) (cB5 : Nat) (AB6 : Option Addr) (cB6 : Nat) (w : World), Nd w x A2 c2 A5 c5 A6 c6 → Nd w y AB2 cB2 AB5 cB5 AB6 cB6 →
    Calls Try.prog 45 #[.agg #[.int .i64 x.f0, .string x.f1, .slice A2 x.f2.length c2, .bool x.f3, .bool x.f4, .slice A5 x.f5.length c5, .slice A6 x.f6.length c6], .agg #[.int .i64 y.f0, .string y.f1, .slice AB2 y.f2.length cB2, .bool y.f3, .bool y.f4, .slice AB5 y.f5.length cB5, .slice AB6 y.f6.length cB6], .bool br] w fun e w' => e = .returned (.bool (likeB br x y)) ∧ Below w.heap.size w w'

set_option maxHeartbeats 2000000 in
theorem alike1_calls (br : Bool) (x y : S26) (ih : AlikeAt br x y) (A2 : Option Addr) (c2 : Nat) (A5 : Option Addr) (c5 : Nat) (A6 : Option Addr) (c6 : Nat) (AB2 : Option Addr) (cB2 : Nat) (AB5 : Option Addr) (cB5 : Nat) (AB6 : Option Addr) (cB6 : Nat) (g : Nat) (w : World) (hx : Nd w x A2 c2 A5 c5 A6 c6) (hy : Nd w y AB2 cB2 AB5 cB5 AB6 cB6) (hg : w.heap[g]? = some (.cells #[.bool br] 4 (0, 0))) :
    Calls Try.prog 55 #[.agg #[.int .i64 x.f0, .string x.f1, .slice A2 x.f2.length c2, .bool x.f3, .bool x.f4, .slice A5 x.f5.length c5, .slice A6 x.f6.length c6], .agg #[.int .i64 y.f0, .string y.f1, .slice AB2 y.f2.length cB2, .bool y.f3, .bool y.f4, .slice AB5 y.f5.length cB5, .slice AB6 y.f6.length cB6], .pointer (some ⟨g, 0, none⟩)] w fun e w' => e = .returned (.bool (likeB br x y)) ∧ Below w.heap.size w w' := by
  have hu26 := Try.underlying26
  have IH := Aside0.mk ih
  have HX := Aside0.mk hx
  have HY := Aside0.mk hy
  have hc : ∀ o o', ((w.alloc o).alloc o').cell? ⟨g, 0, none⟩ = some (.bool br) := fun o o' => (blk_cell (blk_alloc (blk_alloc hg o) o') 0).trans rfl
  clear ih hx hy hg
  go_enter Try.func55, Try.ntmps55
  go_wp2_with fail
  obtain ⟨w1, hw1⟩ : ∃ w1, w1 = (w.alloc (Obj.cells #[.int .i64 x.f0, .string x.f1, .slice A2 x.f2.length c2, .bool x.f3, .bool x.f4, .slice A5 x.f5.length c5, .slice A6 x.f6.length c6] 26)).alloc (Obj.cells #[.int .i64 y.f0, .string y.f1, .slice AB2 y.f2.length cB2, .bool y.f3, .bool y.f4, .slice AB5 y.f5.length cB5, .slice AB6 y.f6.length cB6] 26) := ⟨_, rfl⟩
  have hb1 : Below w.heap.size w w1 := by rw [hw1]; exact ((Below.refl _ _).alloc (Nat.le_refl _) _).alloc (by simp) _
  rw [← hw1]
  refine (IH.out A2 c2 A5 c5 A6 c6 AB2 cB2 AB5 cB5 AB6 cB6 w1 (HX.out.below hb1) (HY.out.below hb1)).mono ?_
  rintro e w2 ⟨rfl, hb2⟩
  have HB := Aside0.mk (below_step hb1 hb2)
  clear hb1 hb2 hw1
  go_wp2_with fail
  go_ret
  exact ⟨rfl, HB.out⟩

set_option maxHeartbeats 4000000 in
set_option maxRecDepth 100000 in
theorem equalFunc_calls (br : Bool) (l0 l1 : List S26) (ih : ∀ i (h : i < l0.length) (h' : i < l1.length), AlikeAt br l0[i] l1[i]) (A0 : Option Addr) (c0 : Nat) (A1 : Option Addr) (c1 : Nat) (g : Nat) (w : World)
    (h0 : Kd.C k26 w A0 l0.length l0) (h1 : Kd.C k26 w A1 l1.length l1) (hg : w.heap[g]? = some (.cells #[.bool br] 4 (0, 0))) :
    Calls Try.prog 54 #[.slice A0 l0.length c0, .slice A1 l1.length c1, .func (.func 55) #[] #[.pointer (some ⟨g, 0, none⟩)]] w fun e w' => e = .returned (.bool (likeL br l0 l1)) ∧ Below w.heap.size w w' := by
  have hu26 := Try.underlying26
  by_cases hlen : l0.length = l1.length
  · have e1 : decide ((l0.length : Int) = (l1.length : Int)) = true := by simp [hlen]
    have IH := Aside0.mk ih
    have H0 := Aside0.mk h0
    have H1 := Aside0.mk h1
    have HG := Aside0.mk hg
    have HLE := Aside0.mk hlen
    have hm0 : l0.length ≤ 9223372036854775807 := h0.2.1
    have hne0 : ((l0.length : Int) != (l1.length : Int)) = false := by simp [hlen]
    have hne1 : (l0.length == l1.length) = true := by simp [hlen]
    clear ih h0 h1 hg hlen e1
    go_enter Try.func54, Try.ntmps54
    go_wp2_with fail
    have H0' := Aside0.mk hm0
    go_loopg [7, 8, 9, 17] l0.length (fun k' v7 v8 v9 v17 wr => ∃ i : Nat, v17 = .int .i64 i ∧ i ≤ l0.length ∧ Aside0 (k' + i = l0.length) ∧ Aside0 (Below w.heap.size w wr) ∧ Aside0 (likeL br l0 l1 = likeL br (l0.drop i) (l1.drop i)))
    case atStart => exact ⟨0, rfl, Nat.zero_le _, ⟨rfl⟩, ⟨Below.refl _ _⟩, ⟨rfl⟩⟩
    case round =>
      obtain ⟨i, rfl, hi, HKI, HB, HE⟩ := hrel
      by_cases hlt : i < l0.length
      · have hlt1 : i < l1.length := by have := HLE.out; omega
        obtain ⟨ad, A2, c2, A5, c5, A6, c6, e0, nx, qx⟩ := Nd.at_ H0.out i hlt
        obtain ⟨bd, AB2, cB2, AB5, cB5, AB6, cB6, e1, ny, qy⟩ := Nd.at_ H1.out i hlt1
        cases e0
        cases e1
        have HT := Aside0.mk (likeL_drop br l0 l1 i hlt hlt1)
        have IHI := Aside0.mk (IH.out i hlt hlt1)
        obtain ⟨p0, p1, p2, p3, p4, p5, p6⟩ := qx _ HB.out
        have qz := fun o => qy _ (HB.out.alloc HB.out.size o)
        have q0 := fun o => (qz o).1
        have q1 := fun o => (qz o).2.1
        have q2 := fun o => (qz o).2.2.1
        have q3 := fun o => (qz o).2.2.2.1
        have q4 := fun o => (qz o).2.2.2.2.1
        have q5 := fun o => (qz o).2.2.2.2.2.1
        have q6 := fun o => (qz o).2.2.2.2.2.2
        have NX := Aside0.mk (nx.below HB.out)
        have NY := Aside0.mk (ny.below HB.out)
        clear qx qy qz nx ny
        obtain ⟨x, hx⟩ : ∃ x, x = l0[i] := ⟨_, rfl⟩
        obtain ⟨y, hy⟩ : ∃ y, y = l1[i] := ⟨_, rfl⟩
        rw [← hx] at p0 p1 p2 p3 p4 p5 p6 HT IHI NX
        rw [← hy] at q0 q1 q2 q3 q4 q5 q6 HT IHI NY
        clear hx hy
        have hgi := HB.out.block g (blk_lt HG.out)
        have HGI := Aside0.mk (hgi.trans HG.out)
        clear hgi
        go_wp2_with fail
        obtain ⟨w1, hw1⟩ : ∃ w1, w1 = ((wr.alloc (Obj.cells #[.int .i64 x.f0, .string x.f1, .slice A2 x.f2.length c2, .bool x.f3, .bool x.f4, .slice A5 x.f5.length c5, .slice A6 x.f6.length c6] 26)).alloc (Obj.cells #[.int .i64 y.f0, .string y.f1, .slice AB2 y.f2.length cB2, .bool y.f3, .bool y.f4, .slice AB5 y.f5.length cB5, .slice AB6 y.f6.length cB6] 26)) := ⟨_, rfl⟩
        have hb1 : Below wr.heap.size wr w1 := by rw [hw1]; exact ((Below.refl _ _).alloc (Nat.le_refl _) _).alloc (by simp) _
        rw [← hw1]
        refine (alike1_calls br x y IHI.out _ _ _ _ _ _ _ _ _ _ _ _ g w1 (NX.out.below hb1) (NY.out.below hb1) (blk_below HGI.out hb1)).mono ?_
        rintro e w2 ⟨rfl, hb2⟩
        have N1 := Aside0.mk (below_step HB.out (below_step hb1 hb2))
        clear hb1 hb2 hw1 p0 p1 p2 p3 p4 p5 p6 q0 q1 q2 q3 q4 q5 q6
        cases hlk : likeB br x y
        · have HLK := Aside0.mk hlk
          clear hlk
          go_wp2_with fail
          go_ret
          exact ⟨by rw [HE.out, HT.out, HLK.out]; rfl, N1.out⟩
        · have HLK := Aside0.mk hlk
          clear hlk
          go_wp2_with fail
          go_roundg (gk - 1)
          case measure => have := HKI.out; omega
          case rel => exact ⟨i + 1, by go_num, by omega, ⟨by have := HKI.out; omega⟩, N1, ⟨by rw [HE.out, HT.out, HLK.out]; rfl⟩⟩
      · go_wp2_with fail
        go_ret
        exact ⟨by rw [HE.out, List.drop_eq_nil_of_le (by omega), List.drop_eq_nil_of_le (by have := HLE.out; omega)]; rfl, HB.out⟩
  · have hne1 : (l0.length == l1.length) = false := by simp; omega
    have HL := Aside0.mk (likeL_of_len br l0 l1 hlen)
    clear hlen
    go_enter Try.func54, Try.ntmps54
    go_wp2_with fail
    go_ret
    exact ⟨by rw [HL.out]; rfl, Below.refl _ _⟩

theorem mem_size (x : S26) (i : Nat) (h : i < x.f2.length) : (pre x.f2[i]).length < (pre x).length := pre_lt x i h

theorem below3 (w : World) (o1 o2 o3 : Obj) : Below w.heap.size w (((w.alloc o1).alloc o2).alloc o3) := (((Below.refl _ _).alloc (Nat.le_refl _) _).alloc (by simp) _).alloc (by simp; omega) _
theorem below3n (w : World) (o1 o2 o3 : Obj) (n : Nat) : Below w.heap.size w ((((w.alloc o1).alloc o2).alloc o3).drewN n) := pw_below_drewN (below3 w o1 o2 o3) n

set_option maxHeartbeats 8000000 in
set_option maxRecDepth 100000 in
theorem alike_n0 (br : Bool) (x y : S26) (ih : ∀ i (h : i < x.f2.length) (h' : i < y.f2.length), AlikeAt br x.f2[i] y.f2[i]) (c0 : (x.f0 == y.f0) = false) : AlikeAt br x y := by
  intro A2 c2 A5 c5 A6 c6 AB2 cB2 AB5 cB5 AB6 cB6 w hx hy
  have hu26 := Try.underlying26
  have HX := Aside0.mk hx
  have HY := Aside0.mk hy
  have IH := Aside0.mk ih
  have HE := Aside0.mk (likeB_eq br x y)
  clear ih hx hy
  have c0' : (x.f0 != y.f0) = true := by simp only [bne, c0]; rfl
  have HF : Aside0 (likeB br x y = false) := ⟨by rw [HE.out, c0]; simp⟩
  go_enter Try.func45, Try.ntmps45
  go_wp2_with fail
  go_ret
  exact ⟨by rw [HF.out]; rfl, below3 _ _ _ _⟩
set_option maxHeartbeats 8000000 in
set_option maxRecDepth 100000 in
theorem alike_n1 (br : Bool) (x y : S26) (ih : ∀ i (h : i < x.f2.length) (h' : i < y.f2.length), AlikeAt br x.f2[i] y.f2[i]) (c0 : (x.f0 == y.f0) = true) (c1 : (x.f1.toList == y.f1.toList) = false) : AlikeAt br x y := by
  intro A2 c2 A5 c5 A6 c6 AB2 cB2 AB5 cB5 AB6 cB6 w hx hy
  have hu26 := Try.underlying26
  have HX := Aside0.mk hx
  have HY := Aside0.mk hy
  have IH := Aside0.mk ih
  have HE := Aside0.mk (likeB_eq br x y)
  clear ih hx hy
  have c0' : (x.f0 != y.f0) = false := by simp only [bne, c0]; rfl
  have c1' : (x.f1.toList != y.f1.toList) = true := by simp only [bne, c1]; rfl
  have HF : Aside0 (likeB br x y = false) := ⟨by rw [HE.out, c0, c1]; simp⟩
  go_enter Try.func45, Try.ntmps45
  go_wp2_with fail
  go_ret
  exact ⟨by rw [HF.out]; rfl, below3 _ _ _ _⟩
set_option maxHeartbeats 8000000 in
set_option maxRecDepth 100000 in
theorem alike_n4 (br : Bool) (x y : S26) (ih : ∀ i (h : i < x.f2.length) (h' : i < y.f2.length), AlikeAt br x.f2[i] y.f2[i]) (c0 : (x.f0 == y.f0) = true) (c1 : (x.f1.toList == y.f1.toList) = true) (c4 : (x.f4 == y.f4) = false) : AlikeAt br x y := by
  intro A2 c2 A5 c5 A6 c6 AB2 cB2 AB5 cB5 AB6 cB6 w hx hy
  have hu26 := Try.underlying26
  have HX := Aside0.mk hx
  have HY := Aside0.mk hy
  have IH := Aside0.mk ih
  have HE := Aside0.mk (likeB_eq br x y)
  clear ih hx hy
  have c0' : (x.f0 != y.f0) = false := by simp only [bne, c0]; rfl
  have c1' : (x.f1.toList != y.f1.toList) = false := by simp only [bne, c1]; rfl
  have c4' : (x.f4 != y.f4) = true := by simp only [bne, c4]; rfl
  have HF : Aside0 (likeB br x y = false) := ⟨by rw [HE.out, c0, c1, c4]; simp⟩
  go_enter Try.func45, Try.ntmps45
  go_wp2_with fail
  go_ret
  exact ⟨by rw [HF.out]; rfl, below3 _ _ _ _⟩
set_option maxHeartbeats 8000000 in
set_option maxRecDepth 100000 in
theorem alike_n3 (br : Bool) (x y : S26) (ih : ∀ i (h : i < x.f2.length) (h' : i < y.f2.length), AlikeAt br x.f2[i] y.f2[i]) (c0 : (x.f0 == y.f0) = true) (c1 : (x.f1.toList == y.f1.toList) = true) (c4 : (x.f4 == y.f4) = true) (cb : br = true) (c3 : (x.f3 == y.f3) = false) : AlikeAt br x y := by
  intro A2 c2 A5 c5 A6 c6 AB2 cB2 AB5 cB5 AB6 cB6 w hx hy
  have hu26 := Try.underlying26
  have HX := Aside0.mk hx
  have HY := Aside0.mk hy
  have IH := Aside0.mk ih
  have HE := Aside0.mk (likeB_eq br x y)
  clear ih hx hy
  subst cb
  have c0' : (x.f0 != y.f0) = false := by simp only [bne, c0]; rfl
  have c1' : (x.f1.toList != y.f1.toList) = false := by simp only [bne, c1]; rfl
  have c4' : (x.f4 != y.f4) = false := by simp only [bne, c4]; rfl
  have c3' : (x.f3 != y.f3) = true := by simp only [bne, c3]; rfl
  have HF : Aside0 (likeB true x y = false) := ⟨by rw [HE.out, c0, c1, c4, c3]; simp⟩
  go_enter Try.func45, Try.ntmps45
  go_wp2_with fail
  go_ret
  exact ⟨by rw [HF.out]; rfl, below3 _ _ _ _⟩
set_option maxHeartbeats 8000000 in
set_option maxRecDepth 100000 in
theorem alike_s5t (br : Bool) (x y : S26) (ih : ∀ i (h : i < x.f2.length) (h' : i < y.f2.length), AlikeAt br x.f2[i] y.f2[i]) (c0 : (x.f0 == y.f0) = true) (c1 : (x.f1.toList == y.f1.toList) = true) (c4 : (x.f4 == y.f4) = true) (cb : br = true) (c3 : (x.f3 == y.f3) = true) (s5 : sEq x.f5 y.f5 = false) : AlikeAt br x y := by
  intro A2 c2 A5 c5 A6 c6 AB2 cB2 AB5 cB5 AB6 cB6 w hx hy
  have hu26 := Try.underlying26
  have HX := Aside0.mk hx
  have HY := Aside0.mk hy
  have IH := Aside0.mk ih
  have HE := Aside0.mk (likeB_eq br x y)
  clear ih hx hy
  subst cb
  have c0' : (x.f0 != y.f0) = false := by simp only [bne, c0]; rfl
  have c1' : (x.f1.toList != y.f1.toList) = false := by simp only [bne, c1]; rfl
  have c4' : (x.f4 != y.f4) = false := by simp only [bne, c4]; rfl
  have c3' : (x.f3 != y.f3) = false := by simp only [bne, c3]; rfl
  have S5 := Aside0.mk s5
  have HF : Aside0 (likeB true x y = false) := ⟨by rw [HE.out, c0, c1, c4, c3, s5]; simp⟩
  clear s5
  go_enter Try.func45, Try.ntmps45
  go_wp2_with fail
  refine (sEq_calls A5 c5 x.f5 AB5 cB5 y.f5 _ (Kd.C_below HX.out.g5 (below3 _ _ _ _)) HX.out.l5 (Kd.C_below HY.out.g5 (below3 _ _ _ _)) HY.out.l5).mono ?_
  rintro e w1 ⟨rfl, ⟨n5, rfl⟩⟩
  rw [S5.out]
  go_wp2_with fail
  go_ret
  exact ⟨by rw [HF.out]; rfl, below3n _ _ _ _ _⟩
set_option maxHeartbeats 8000000 in
set_option maxRecDepth 100000 in
theorem alike_s6t (br : Bool) (x y : S26) (ih : ∀ i (h : i < x.f2.length) (h' : i < y.f2.length), AlikeAt br x.f2[i] y.f2[i]) (c0 : (x.f0 == y.f0) = true) (c1 : (x.f1.toList == y.f1.toList) = true) (c4 : (x.f4 == y.f4) = true) (cb : br = true) (c3 : (x.f3 == y.f3) = true) (s5 : sEq x.f5 y.f5 = true) (s6 : sEq x.f6 y.f6 = false) : AlikeAt br x y := by
  intro A2 c2 A5 c5 A6 c6 AB2 cB2 AB5 cB5 AB6 cB6 w hx hy
  have hu26 := Try.underlying26
  have HX := Aside0.mk hx
  have HY := Aside0.mk hy
  have IH := Aside0.mk ih
  have HE := Aside0.mk (likeB_eq br x y)
  clear ih hx hy
  subst cb
  have c0' : (x.f0 != y.f0) = false := by simp only [bne, c0]; rfl
  have c1' : (x.f1.toList != y.f1.toList) = false := by simp only [bne, c1]; rfl
  have c4' : (x.f4 != y.f4) = false := by simp only [bne, c4]; rfl
  have c3' : (x.f3 != y.f3) = false := by simp only [bne, c3]; rfl
  have S5 := Aside0.mk s5
  have S6 := Aside0.mk s6
  have HF : Aside0 (likeB true x y = false) := ⟨by rw [HE.out, c0, c1, c4, c3, s5, s6]; simp⟩
  clear s5 s6
  go_enter Try.func45, Try.ntmps45
  go_wp2_with fail
  refine (sEq_calls A5 c5 x.f5 AB5 cB5 y.f5 _ (Kd.C_below HX.out.g5 (below3 _ _ _ _)) HX.out.l5 (Kd.C_below HY.out.g5 (below3 _ _ _ _)) HY.out.l5).mono ?_
  rintro e w1 ⟨rfl, ⟨n5, rfl⟩⟩
  rw [S5.out]
  go_wp2_with fail
  refine (sEq_calls A6 c6 x.f6 AB6 cB6 y.f6 _ (Kd.C_below HX.out.g6 (below3n _ _ _ _ _)) HX.out.l6 (Kd.C_below HY.out.g6 (below3n _ _ _ _ _)) HY.out.l6).mono ?_
  rintro e w1 ⟨rfl, ⟨n6, rfl⟩⟩
  rw [S6.out]
  go_wp2_with fail
  go_ret
  exact ⟨by rw [HF.out]; rfl, below3n _ _ _ _ _⟩
set_option maxHeartbeats 8000000 in
set_option maxRecDepth 100000 in
theorem alike_yt (br : Bool) (x y : S26) (ih : ∀ i (h : i < x.f2.length) (h' : i < y.f2.length), AlikeAt br x.f2[i] y.f2[i]) (c0 : (x.f0 == y.f0) = true) (c1 : (x.f1.toList == y.f1.toList) = true) (c4 : (x.f4 == y.f4) = true) (cb : br = true) (c3 : (x.f3 == y.f3) = true) (s5 : sEq x.f5 y.f5 = true) (s6 : sEq x.f6 y.f6 = true) : AlikeAt br x y := by
  intro A2 c2 A5 c5 A6 c6 AB2 cB2 AB5 cB5 AB6 cB6 w hx hy
  have hu26 := Try.underlying26
  have HX := Aside0.mk hx
  have HY := Aside0.mk hy
  have IH := Aside0.mk ih
  have HE := Aside0.mk (likeB_eq br x y)
  clear ih hx hy
  subst cb
  have c0' : (x.f0 != y.f0) = false := by simp only [bne, c0]; rfl
  have c1' : (x.f1.toList != y.f1.toList) = false := by simp only [bne, c1]; rfl
  have c4' : (x.f4 != y.f4) = false := by simp only [bne, c4]; rfl
  have c3' : (x.f3 != y.f3) = false := by simp only [bne, c3]; rfl
  have S5 := Aside0.mk s5
  have S6 := Aside0.mk s6
  have HF : Aside0 (likeB true x y = likeL true x.f2 y.f2) := ⟨by rw [HE.out, c0, c1, c4, c3, s5, s6]; simp⟩
  clear s5 s6
  go_enter Try.func45, Try.ntmps45
  go_wp2_with fail
  refine (sEq_calls A5 c5 x.f5 AB5 cB5 y.f5 _ (Kd.C_below HX.out.g5 (below3 _ _ _ _)) HX.out.l5 (Kd.C_below HY.out.g5 (below3 _ _ _ _)) HY.out.l5).mono ?_
  rintro e w1 ⟨rfl, ⟨n5, rfl⟩⟩
  rw [S5.out]
  go_wp2_with fail
  refine (sEq_calls A6 c6 x.f6 AB6 cB6 y.f6 _ (Kd.C_below HX.out.g6 (below3n _ _ _ _ _)) HX.out.l6 (Kd.C_below HY.out.g6 (below3n _ _ _ _ _)) HY.out.l6).mono ?_
  rintro e w1 ⟨rfl, ⟨n6, rfl⟩⟩
  rw [S6.out]
  go_wp2_with fail
  have hgb : ∀ (o1 o2 : Obj) (n : Nat), ((((w.alloc o1).alloc o2).alloc (.cells #[.bool true] 4)).drewN n).heap[w.heap.size + 1 + 1]? = some (.cells #[.bool true] 4 (0, 0)) := fun o1 o2 n => by
    have h := blk_drewN (blk_new ((w.alloc o1).alloc o2) (.cells #[.bool true] 4)) n
    simpa using h
  refine (equalFunc_calls true x.f2 y.f2 IH.out A2 c2 AB2 cB2 (w.heap.size + 1 + 1) _ (Kd.C_below HX.out.g2 (below3n _ _ _ _ _)) (Kd.C_below HY.out.g2 (below3n _ _ _ _ _)) (hgb _ _ _)).mono ?_
  rintro e w1 ⟨rfl, hb⟩
  have HB := Aside0.mk (below_step (below3n _ _ _ _ _) hb)
  clear hb hgb
  go_wp2_with fail
  go_ret
  exact ⟨by rw [HF.out]; rfl, HB.out⟩
set_option maxHeartbeats 8000000 in
set_option maxRecDepth 100000 in
theorem alike_s5f (br : Bool) (x y : S26) (ih : ∀ i (h : i < x.f2.length) (h' : i < y.f2.length), AlikeAt br x.f2[i] y.f2[i]) (c0 : (x.f0 == y.f0) = true) (c1 : (x.f1.toList == y.f1.toList) = true) (c4 : (x.f4 == y.f4) = true) (cb : br = false) (s5 : sEq x.f5 y.f5 = false) : AlikeAt br x y := by
  intro A2 c2 A5 c5 A6 c6 AB2 cB2 AB5 cB5 AB6 cB6 w hx hy
  have hu26 := Try.underlying26
  have HX := Aside0.mk hx
  have HY := Aside0.mk hy
  have IH := Aside0.mk ih
  have HE := Aside0.mk (likeB_eq br x y)
  clear ih hx hy
  subst cb
  have c0' : (x.f0 != y.f0) = false := by simp only [bne, c0]; rfl
  have c1' : (x.f1.toList != y.f1.toList) = false := by simp only [bne, c1]; rfl
  have c4' : (x.f4 != y.f4) = false := by simp only [bne, c4]; rfl
  have S5 := Aside0.mk s5
  have HF : Aside0 (likeB false x y = false) := ⟨by rw [HE.out, c0, c1, c4, s5]; simp⟩
  clear s5
  go_enter Try.func45, Try.ntmps45
  go_wp2_with fail
  refine (sEq_calls A5 c5 x.f5 AB5 cB5 y.f5 _ (Kd.C_below HX.out.g5 (below3 _ _ _ _)) HX.out.l5 (Kd.C_below HY.out.g5 (below3 _ _ _ _)) HY.out.l5).mono ?_
  rintro e w1 ⟨rfl, ⟨n5, rfl⟩⟩
  rw [S5.out]
  go_wp2_with fail
  go_ret
  exact ⟨by rw [HF.out]; rfl, below3n _ _ _ _ _⟩
set_option maxHeartbeats 8000000 in
set_option maxRecDepth 100000 in
theorem alike_s6f (br : Bool) (x y : S26) (ih : ∀ i (h : i < x.f2.length) (h' : i < y.f2.length), AlikeAt br x.f2[i] y.f2[i]) (c0 : (x.f0 == y.f0) = true) (c1 : (x.f1.toList == y.f1.toList) = true) (c4 : (x.f4 == y.f4) = true) (cb : br = false) (s5 : sEq x.f5 y.f5 = true) (s6 : sEq x.f6 y.f6 = false) : AlikeAt br x y := by
  intro A2 c2 A5 c5 A6 c6 AB2 cB2 AB5 cB5 AB6 cB6 w hx hy
  have hu26 := Try.underlying26
  have HX := Aside0.mk hx
  have HY := Aside0.mk hy
  have IH := Aside0.mk ih
  have HE := Aside0.mk (likeB_eq br x y)
  clear ih hx hy
  subst cb
  have c0' : (x.f0 != y.f0) = false := by simp only [bne, c0]; rfl
  have c1' : (x.f1.toList != y.f1.toList) = false := by simp only [bne, c1]; rfl
  have c4' : (x.f4 != y.f4) = false := by simp only [bne, c4]; rfl
  have S5 := Aside0.mk s5
  have S6 := Aside0.mk s6
  have HF : Aside0 (likeB false x y = false) := ⟨by rw [HE.out, c0, c1, c4, s5, s6]; simp⟩
  clear s5 s6
  go_enter Try.func45, Try.ntmps45
  go_wp2_with fail
  refine (sEq_calls A5 c5 x.f5 AB5 cB5 y.f5 _ (Kd.C_below HX.out.g5 (below3 _ _ _ _)) HX.out.l5 (Kd.C_below HY.out.g5 (below3 _ _ _ _)) HY.out.l5).mono ?_
  rintro e w1 ⟨rfl, ⟨n5, rfl⟩⟩
  rw [S5.out]
  go_wp2_with fail
  refine (sEq_calls A6 c6 x.f6 AB6 cB6 y.f6 _ (Kd.C_below HX.out.g6 (below3n _ _ _ _ _)) HX.out.l6 (Kd.C_below HY.out.g6 (below3n _ _ _ _ _)) HY.out.l6).mono ?_
  rintro e w1 ⟨rfl, ⟨n6, rfl⟩⟩
  rw [S6.out]
  go_wp2_with fail
  go_ret
  exact ⟨by rw [HF.out]; rfl, below3n _ _ _ _ _⟩
set_option maxHeartbeats 8000000 in
set_option maxRecDepth 100000 in
theorem alike_yf (br : Bool) (x y : S26) (ih : ∀ i (h : i < x.f2.length) (h' : i < y.f2.length), AlikeAt br x.f2[i] y.f2[i]) (c0 : (x.f0 == y.f0) = true) (c1 : (x.f1.toList == y.f1.toList) = true) (c4 : (x.f4 == y.f4) = true) (cb : br = false) (s5 : sEq x.f5 y.f5 = true) (s6 : sEq x.f6 y.f6 = true) : AlikeAt br x y := by
  intro A2 c2 A5 c5 A6 c6 AB2 cB2 AB5 cB5 AB6 cB6 w hx hy
  have hu26 := Try.underlying26
  have HX := Aside0.mk hx
  have HY := Aside0.mk hy
  have IH := Aside0.mk ih
  have HE := Aside0.mk (likeB_eq br x y)
  clear ih hx hy
  subst cb
  have c0' : (x.f0 != y.f0) = false := by simp only [bne, c0]; rfl
  have c1' : (x.f1.toList != y.f1.toList) = false := by simp only [bne, c1]; rfl
  have c4' : (x.f4 != y.f4) = false := by simp only [bne, c4]; rfl
  have S5 := Aside0.mk s5
  have S6 := Aside0.mk s6
  have HF : Aside0 (likeB false x y = likeL false x.f2 y.f2) := ⟨by rw [HE.out, c0, c1, c4, s5, s6]; simp⟩
  clear s5 s6
  go_enter Try.func45, Try.ntmps45
  go_wp2_with fail
  refine (sEq_calls A5 c5 x.f5 AB5 cB5 y.f5 _ (Kd.C_below HX.out.g5 (below3 _ _ _ _)) HX.out.l5 (Kd.C_below HY.out.g5 (below3 _ _ _ _)) HY.out.l5).mono ?_
  rintro e w1 ⟨rfl, ⟨n5, rfl⟩⟩
  rw [S5.out]
  go_wp2_with fail
  refine (sEq_calls A6 c6 x.f6 AB6 cB6 y.f6 _ (Kd.C_below HX.out.g6 (below3n _ _ _ _ _)) HX.out.l6 (Kd.C_below HY.out.g6 (below3n _ _ _ _ _)) HY.out.l6).mono ?_
  rintro e w1 ⟨rfl, ⟨n6, rfl⟩⟩
  rw [S6.out]
  go_wp2_with fail
  have hgb : ∀ (o1 o2 : Obj) (n : Nat), ((((w.alloc o1).alloc o2).alloc (.cells #[.bool false] 4)).drewN n).heap[w.heap.size + 1 + 1]? = some (.cells #[.bool false] 4 (0, 0)) := fun o1 o2 n => by
    have h := blk_drewN (blk_new ((w.alloc o1).alloc o2) (.cells #[.bool false] 4)) n
    simpa using h
  refine (equalFunc_calls false x.f2 y.f2 IH.out A2 c2 AB2 cB2 (w.heap.size + 1 + 1) _ (Kd.C_below HX.out.g2 (below3n _ _ _ _ _)) (Kd.C_below HY.out.g2 (below3n _ _ _ _ _)) (hgb _ _ _)).mono ?_
  rintro e w1 ⟨rfl, hb⟩
  have HB := Aside0.mk (below_step (below3n _ _ _ _ _) hb)
  clear hb hgb
  go_wp2_with fail
  go_ret
  exact ⟨by rw [HF.out]; rfl, HB.out⟩
theorem alike_any (br : Bool) (n : Nat) : ∀ (x y : S26), (pre x).length ≤ n → AlikeAt br x y := by
  induction n using Nat.strongRecOn with
  | _ n ih =>
  intro x y hn
  have ih' : ∀ i (h : i < x.f2.length) (h' : i < y.f2.length), AlikeAt br x.f2[i] y.f2[i] := fun i h h' => ih _ (Nat.lt_of_lt_of_le (pre_lt x i h) hn) _ _ (Nat.le_refl _)
  cases c0 : x.f0 == y.f0
  · exact alike_n0 br x y ih' c0
  cases c1 : x.f1.toList == y.f1.toList
  · exact alike_n1 br x y ih' c0 c1
  cases c4 : x.f4 == y.f4
  · exact alike_n4 br x y ih' c0 c1 c4
  cases cb : br
  · rw [← cb]
    cases s5 : sEq x.f5 y.f5
    · exact alike_s5f br x y ih' c0 c1 c4 cb s5
    cases s6 : sEq x.f6 y.f6
    · exact alike_s6f br x y ih' c0 c1 c4 cb s5 s6
    · exact alike_yf br x y ih' c0 c1 c4 cb s5 s6
  · rw [← cb]
    cases c3 : x.f3 == y.f3
    · exact alike_n3 br x y ih' c0 c1 c4 cb c3
    cases s5 : sEq x.f5 y.f5
    · exact alike_s5t br x y ih' c0 c1 c4 cb c3 s5
    cases s6 : sEq x.f6 y.f6
    · exact alike_s6t br x y ih' c0 c1 c4 cb c3 s5 s6
    · exact alike_yt br x y ih' c0 c1 c4 cb c3 s5 s6
theorem alike_calls (br : Bool) (x y : S26) : AlikeAt br x y := alike_any br _ x y (Nat.le_refl _)
end Go.Proofs.Ytjlnlonioknkhaa.PA

/- Trees at this seat: their nodes, when two are like, when one is few (plain). -/
import Derived.Test.YtjlnlonioknkhaaDoorPLx1
import Derived.Test.YtjlnlonioknkhaaDoorPLx3
import Derived.Test.YtjlnlonioknkhaaDoorHD1
namespace Go.Proofs.YtjlnlonioknkhaaDoor.PL
open Go.RowKit Go.Proofs.YtjlnlonioknkhaaDoorW.PrintWords Go.Proofs.YtjlnlonioknkhaaDoorW.PrintLast Go.Proofs.YtjlnlonioknkhaaDoorW.PrintMore
set_option linter.unusedVariables false
set_option linter.unusedSimpArgs false

theorem k32_heap : Kd.Heap k32 := Kd.heap_fix (fun _ h_ => Kd.heap_iso _ (Kd.heap_pair (Kd.heap_int .i64) (Kd.heap_pair Kd.heap_string (Kd.heap_pair (Kd.heap_slice 32 h_) (Kd.heap_pair Kd.heap_bool (Kd.heap_pair Kd.heap_bool (Kd.heap_pair (Kd.heap_slice 9 Kd.heap_string) (Kd.heap_slice 9 Kd.heap_string))))))))
theorem k32_openF {W : World} {ok : Nat → Prop} {x : S32} {cs : List Value} (h : Kd.FK k32 W ok x cs) : ∃ A2 c2 A5 c5 A6 c6, cs = [.int .i64 x.f0, .string x.f1, .slice A2 x.f2.length c2, .bool x.f3, .bool x.f4, .slice A5 x.f5.length c5, .slice A6 x.f6.length c6] ∧ x.f2.length ≤ c2 ∧ Kd.F k32 W ok A2 x.f2.length x.f2 ∧ x.f5.length ≤ c5 ∧ Kd.F Kd.string W ok A5 x.f5.length x.f5 ∧ x.f6.length ≤ c6 ∧ Kd.F Kd.string W ok A6 x.f6.length x.f6 := by
  obtain ⟨A2, c2, A5, c5, A6, c6, rfl, l2, _, l5, _, l6, _⟩ := k32_open (Kd.FK_now h)
  exact ⟨A2, c2, A5, c5, A6, c6, rfl, l2, (fun W' hW => by obtain ⟨A2_, c2_, A5_, c5_, A6_, c6_, he, l2_, g2_, l5_, g5_, l6_, g6_⟩ := k32_open (h W' hW); injection (Option.some.inj (show some (Value.slice A2 x.f2.length c2) = some (Value.slice A2_ x.f2.length c2_) from congrArg (fun l => l[2]?) he)) with ha_ _ _; rw [ha_]; exact g2_), l5, (fun W' hW => by obtain ⟨A2_, c2_, A5_, c5_, A6_, c6_, he, l2_, g2_, l5_, g5_, l6_, g6_⟩ := k32_open (h W' hW); injection (Option.some.inj (show some (Value.slice A5 x.f5.length c5) = some (Value.slice A5_ x.f5.length c5_) from congrArg (fun l => l[5]?) he)) with ha_ _ _; rw [ha_]; exact g5_), l6, (fun W' hW => by obtain ⟨A2_, c2_, A5_, c5_, A6_, c6_, he, l2_, g2_, l5_, g5_, l6_, g6_⟩ := k32_open (h W' hW); injection (Option.some.inj (show some (Value.slice A6 x.f6.length c6) = some (Value.slice A6_ x.f6.length c6_) from congrArg (fun l => l[6]?) he)) with ha_ _ _; rw [ha_]; exact g6_)⟩
theorem k32_mkF (W : World) (ok : Nat → Prop) (x : S32) {A2 : Option Addr} {c2 : Nat} (l2 : x.f2.length ≤ c2) (g2 : Kd.F k32 W ok A2 x.f2.length x.f2) {A5 : Option Addr} {c5 : Nat} (l5 : x.f5.length ≤ c5) (g5 : Kd.F Kd.string W ok A5 x.f5.length x.f5) {A6 : Option Addr} {c6 : Nat} (l6 : x.f6.length ≤ c6) (g6 : Kd.F Kd.string W ok A6 x.f6.length x.f6) : Kd.FK k32 W ok x [.int .i64 x.f0, .string x.f1, .slice A2 x.f2.length c2, .bool x.f3, .bool x.f4, .slice A5 x.f5.length c5, .slice A6 x.f6.length c6] := fun W2 hW => k32_mk W2 x l2 (g2 W2 hW) l5 (g5 W2 hW) l6 (g6 W2 hW)
mutual
def pre : S32 → List S32
  | ⟨a, b, l, c, d, e, f⟩ => ⟨a, b, l, c, d, e, f⟩ :: preL l
def preL : List S32 → List S32
  | [] => []
  | x :: r => pre x ++ preL r
end
theorem pre_eq (x : S32) : pre x = x :: preL x.f2 := by cases x; simp [pre]
theorem preL_append (a b : List S32) : preL (a ++ b) = preL a ++ preL b := by
  induction a with
  | nil => simp [preL]
  | cons x r ih => simp [preL, ih, List.append_assoc]
theorem preL_take (l : List S32) (k : Nat) (h : k < l.length) : preL (l.take (k + 1)) = preL (l.take k) ++ pre l[k] := by
  rw [List.take_succ_eq_append_getElem h, preL_append]; simp [preL]
theorem pre_lt (x : S32) (k : Nat) (h : k < x.f2.length) : (pre x.f2[k]).length < (pre x).length := by
  rw [pre_eq x]
  have h1 := preL_take x.f2 k h
  have h2 : (preL (x.f2.take (k + 1))).length ≤ (preL x.f2).length := by
    have : preL x.f2 = preL (x.f2.take (k + 1)) ++ preL (x.f2.drop (k + 1)) := by rw [← preL_append, List.take_append_drop]
    rw [this, List.length_append]; omega
  rw [h1, List.length_append] at h2
  simp only [List.length_cons]; omega
theorem rd32 (l : List S32) (k : Nat) (h : k < l.length) : rd_T32 l (k : Int) = l[k] := by simp [rd_T32, List.getD_eq_getElem?_getD, h]
def sEq : List ByteArray → List ByteArray → Bool
  | [], [] => true
  | a :: r, b :: s => (a.toList == b.toList) && sEq r s
  | _, _ => false
theorem sEq_length : ∀ (l m : List ByteArray), sEq l m = true → l.length = m.length
  | [], [], _ => rfl
  | [], _ :: _, h => by simp [sEq] at h
  | _ :: _, [], h => by simp [sEq] at h
  | a :: r, b :: s, h => by simp only [sEq, Bool.and_eq_true] at h; simp [sEq_length r s h.2]
theorem sEq_of_len (l m : List ByteArray) (h : l.length ≠ m.length) : sEq l m = false := by
  cases hs : sEq l m
  · rfl
  · exact absurd (sEq_length l m hs) h
theorem sEq_drop (l m : List ByteArray) (i : Nat) (h : i < l.length) (h' : i < m.length) : sEq (l.drop i) (m.drop i) = ((l[i].toList == m[i].toList) && sEq (l.drop (i + 1)) (m.drop (i + 1))) := by
  rw [List.drop_eq_getElem_cons h, List.drop_eq_getElem_cons h']; rfl
theorem rdOf_nat (l : List ByteArray) (i : Nat) (h : i < l.length) : rdOf ByteArray.empty l (i : Int) = l[i] := by simp [rdOf, List.getD_eq_getElem?_getD, h]
mutual
def likeB (br : Bool) : S32 → S32 → Bool
  | ⟨a0, a1, a2, a3, a4, a5, a6⟩, y => (a0 == y.f0) && (a1.toList == y.f1.toList) && (a4 == y.f4) && (!br || a3 == y.f3) && sEq a5 y.f5 && sEq a6 y.f6 && likeL br a2 y.f2
def likeL (br : Bool) : List S32 → List S32 → Bool
  | [], [] => true
  | x :: r, y :: s => likeB br x y && likeL br r s
  | _, _ => false
end
theorem likeB_eq (br : Bool) (x y : S32) : likeB br x y = ((x.f0 == y.f0) && (x.f1.toList == y.f1.toList) && (x.f4 == y.f4) && (!br || x.f3 == y.f3) && sEq x.f5 y.f5 && sEq x.f6 y.f6 && likeL br x.f2 y.f2) := by cases x; rfl
theorem likeL_length (br : Bool) : ∀ (l m : List S32), likeL br l m = true → l.length = m.length
  | [], [], _ => rfl
  | [], _ :: _, h => by simp [likeL] at h
  | _ :: _, [], h => by simp [likeL] at h
  | a :: r, b :: s, h => by simp only [likeL, Bool.and_eq_true] at h; simp [likeL_length br r s h.2]
theorem likeL_of_len (br : Bool) (l m : List S32) (h : l.length ≠ m.length) : likeL br l m = false := by
  cases hs : likeL br l m
  · rfl
  · exact absurd (likeL_length br l m hs) h
theorem likeL_drop (br : Bool) (l m : List S32) (i : Nat) (h : i < l.length) (h' : i < m.length) : likeL br (l.drop i) (m.drop i) = (likeB br l[i] m[i] && likeL br (l.drop (i + 1)) (m.drop (i + 1))) := by
  rw [List.drop_eq_getElem_cons h, List.drop_eq_getElem_cons h']; rfl
structure Nd (w : World) (x : S32) (A2 : Option Addr) (c2 : Nat) (A5 : Option Addr) (c5 : Nat) (A6 : Option Addr) (c6 : Nat) : Prop where
  g2 : Kd.C k32 w A2 x.f2.length x.f2
  l2 : x.f2.length ≤ c2
  g5 : Kd.C Kd.string w A5 x.f5.length x.f5
  l5 : x.f5.length ≤ c5
  g6 : Kd.C Kd.string w A6 x.f6.length x.f6
  l6 : x.f6.length ≤ c6
theorem Nd.below {w w' : World} {x : S32} {A2 A5 A6 : Option Addr} {c2 c5 c6 : Nat} (h : Nd w x A2 c2 A5 c5 A6 c6) (hb : Below w.heap.size w w') : Nd w' x A2 c2 A5 c5 A6 c6 :=
  ⟨Kd.C_below h.g2 hb, h.l2, Kd.C_below h.g5 hb, h.l5, Kd.C_below h.g6 hb, h.l6⟩
theorem wrap_next {i : Nat} {n : Nat} (h : i < n) (hn : n ≤ 9223372036854775807) : wrap64 ((i : Int) + 1) = ((i + 1 : Nat) : Int) := by unfold wrap64; omega
theorem wrap_add (a b : Int) : wrap64 (wrap64 a + wrap64 b) = wrap64 (a + b) := by unfold wrap64; omega
theorem Ev.bindc {α β : Type} {o : Option α} {f : Nat → α → Option β} {a : α} {r : β} (h : o = some a) (k : Ev (fun n => f n a) r) : Ev (fun n => o.bind (f n)) r := by subst h; exact k
theorem Ev.yes {α : Type} {c : Prop} [Decidable c] {a b : Nat → Option α} {r : α} (h : c) (k : Ev a r) : Ev (fun n => if c then a n else b n) r := Ev.congr (fun n => if_pos h) k
theorem Ev.no {α : Type} {c : Prop} [Decidable c] {a b : Nat → Option α} {r : α} (h : ¬ c) (k : Ev b r) : Ev (fun n => if c then a n else b n) r := Ev.congr (fun n => if_neg h) k
def Fin32 (x : S32) : Prop := ∀ y ∈ pre x, y.f2.length ≤ 9223372036854775807 ∧ y.f5.length ≤ 9223372036854775807 ∧ y.f6.length ≤ 9223372036854775807
theorem mem_self (x : S32) : x ∈ pre x := by rw [pre_eq]; simp
theorem mem_preL (l : List S32) (i : Nat) (h : i < l.length) (y : S32) (hy : y ∈ pre l[i]) : y ∈ preL l := by
  have h1 : preL l = preL (l.take (i + 1)) ++ preL (l.drop (i + 1)) := by rw [← preL_append, List.take_append_drop]
  rw [h1, preL_take l i h]
  simp [hy]
theorem mem_child (x : S32) (i : Nat) (h : i < x.f2.length) (y : S32) (hy : y ∈ pre x.f2[i]) : y ∈ pre x := by
  rw [pre_eq x]; exact List.mem_cons_of_mem _ (mem_preL x.f2 i h y hy)
theorem Fin32.child {x : S32} (hx : Fin32 x) (i : Nat) (h : i < x.f2.length) : Fin32 x.f2[i] := fun y hy => hx y (mem_child x i h y hy)
theorem Fin32.own {x : S32} (hx : Fin32 x) : x.f2.length ≤ 9223372036854775807 ∧ x.f5.length ≤ 9223372036854775807 ∧ x.f6.length ≤ 9223372036854775807 := hx x (mem_self x)
theorem preL_drop (l : List S32) (i : Nat) (h : i < l.length) : preL (l.drop i) = pre l[i] ++ preL (l.drop (i + 1)) := by rw [List.drop_eq_getElem_cons h]; rfl
theorem texts9_loop (l m : List ByteArray) (hlm : l.length = m.length) (hn : l.length ≤ 9223372036854775807) (d : Nat) : ∀ i : Nat, l.length - i = d → i ≤ l.length → Ev (fun k => galleyref9_texts.l0 k l m (i : Int)) (sEq (l.drop i) (m.drop i)) := by
  induction d with
  | zero =>
    intro i hd hi
    refine Ev.step (f := fun _ => some true) (fun k => by simp only [galleyref9_texts.l0]; rw [if_neg (by omega)]) ?_
    rw [List.drop_eq_nil_of_le (by omega), List.drop_eq_nil_of_le (by omega)]
    exact Ev.now _
  | succ d ih =>
    intro i hd hi
    have hil : i < l.length := by omega
    have him : i < m.length := by omega
    rw [sEq_drop l m i hil him]
    by_cases e : l[i].toList = m[i].toList
    · refine Ev.step (f := fun k => galleyref9_texts.l0 k l m ((i + 1 : Nat) : Int)) (fun k => by simp only [galleyref9_texts.l0]; rw [if_pos (by omega), if_pos (by omega), if_pos (by omega), rdOf_nat l i hil, rdOf_nat m i him, if_pos e, wrap_next hil hn]) ?_
      have := ih (i + 1) (by omega) (by omega)
      rw [beq_iff_eq.mpr e, Bool.true_and]
      exact this
    · refine Ev.step (f := fun _ => some false) (fun k => by simp only [galleyref9_texts.l0]; rw [if_pos (by omega), if_pos (by omega), if_pos (by omega), rdOf_nat l i hil, rdOf_nat m i him, if_neg e]) ?_
      rw [beq_eq_false_iff_ne.mpr e, Bool.false_and]
      exact Ev.now _
theorem texts9 (l m : List ByteArray) (hn : l.length ≤ 9223372036854775807) : Ev (fun k => galleyref9_texts.f k l m) (sEq l m) := by
  by_cases e : l.length = m.length
  · exact Ev.congr (f := fun k => galleyref9_texts.l0 k l m ((0 : Nat) : Int)) (fun k => by unfold galleyref9_texts.f; rw [if_pos (by omega)]; rfl) (texts9_loop l m e hn l.length 0 (by omega) (by omega))
  · rw [sEq_of_len l m e]
    exact Ev.congr (f := fun _ => some false) (fun k => by unfold galleyref9_texts.f; rw [if_neg (by omega)]) (Ev.now _)
theorem sEq_refl : ∀ l : List ByteArray, sEq l l = true
  | [] => rfl
  | a :: r => by simp [sEq, sEq_refl r]
theorem count9 (n : Nat) : ∀ x : S32, (pre x).length ≤ n → Fin32 x → Ev (fun k => galleyref9_Count.f k x.f0 x.f1 x.f2 x.f3 x.f4 x.f5 x.f6) (wrap64 (pre x).length) := by
  induction n using Nat.strongRecOn with
  | _ n ih =>
  intro x hn hx
  have hm := hx.own.1
  have loop : ∀ d i : Nat, ∀ a : Int, x.f2.length - i = d → i ≤ x.f2.length → Ev (fun k => galleyref9_Count.l0 k (wrap64 a) (i : Int) x.f0 x.f1 x.f2 x.f3 x.f4 x.f5 x.f6) (wrap64 (a + (preL (x.f2.drop i)).length)) := by
    intro d
    induction d with
    | zero =>
      intro i a hd hi
      refine Ev.step (f := fun _ => some (wrap64 a)) (fun k => by simp only [galleyref9_Count.l0]; rw [if_neg (by omega)]) ?_
      rw [List.drop_eq_nil_of_le (by omega)]
      simpa [preL] using Ev.now (wrap64 a)
    | succ d ihd =>
      intro i a hd hi
      have hil : i < x.f2.length := by omega
      refine Ev.step (f := fun k => (galleyref9_Count.f k x.f2[i].f0 x.f2[i].f1 x.f2[i].f2 x.f2[i].f3 x.f2[i].f4 x.f2[i].f5 x.f2[i].f6).bind fun t => galleyref9_Count.l0 k (wrap64 (wrap64 a + t)) ((i + 1 : Nat) : Int) x.f0 x.f1 x.f2 x.f3 x.f4 x.f5 x.f6)
        (fun k => by simp only [galleyref9_Count.l0]; rw [if_pos (by omega), if_pos (by omega), rd32 _ _ hil, wrap_next hil hm]) ?_
      refine Ev.bind (ih (pre x.f2[i]).length (Nat.lt_of_lt_of_le (pre_lt x i hil) hn) x.f2[i] (Nat.le_refl _) (hx.child i hil)) ?_
      have h := ihd (i + 1) (a + (pre x.f2[i]).length) (by omega) (by omega)
      rw [wrap_add, preL_drop x.f2 i hil, List.length_append]
      have e : a + (((pre x.f2[i]).length + (preL (x.f2.drop (i + 1))).length : Nat) : Int) = a + (pre x.f2[i]).length + (preL (x.f2.drop (i + 1))).length := by omega
      rw [e]
      exact h
  have h := loop x.f2.length 0 1 (by omega) (by omega)
  refine Ev.step (f := fun k => galleyref9_Count.l0 k 1 0 x.f0 x.f1 x.f2 x.f3 x.f4 x.f5 x.f6) (fun k => by simp only [galleyref9_Count.f]) ?_
  rw [pre_eq x, List.length_cons]
  have e1 : wrap64 1 = 1 := by unfold wrap64; omega
  have e : ((((preL x.f2).length + 1 : Nat)) : Int) = 1 + ((preL (x.f2.drop 0)).length : Int) := by rw [List.drop_zero]; omega
  rw [e]
  rw [e1] at h
  exact h
theorem like9 (all : Bool) (n : Nat) : ∀ x y : S32, (pre x).length ≤ n → Fin32 x → Ev (fun k => galleyref9_like.f k x.f0 x.f1 x.f2 x.f3 x.f4 x.f5 x.f6 y.f0 y.f1 y.f2 y.f3 y.f4 y.f5 y.f6 all) (likeB all x y) := by
  induction n using Nat.strongRecOn with
  | _ n ih =>
  intro x y hn hx
  have hm := hx.own.1
  have loop : x.f2.length = y.f2.length → ∀ d i : Nat, x.f2.length - i = d → i ≤ x.f2.length → Ev (fun k => galleyref9_like.l0 k all (i : Int) x.f0 x.f1 x.f2 x.f3 x.f4 x.f5 x.f6 y.f0 y.f1 y.f2 y.f3 y.f4 y.f5 y.f6) (likeL all (x.f2.drop i) (y.f2.drop i)) := by
    intro hl d
    induction d with
    | zero =>
      intro i hd hi
      refine Ev.step (f := fun _ => some true) (fun k => by simp only [galleyref9_like.l0]; rw [if_neg (by omega)]) ?_
      rw [List.drop_eq_nil_of_le (by omega), List.drop_eq_nil_of_le (by omega)]
      exact Ev.now _
    | succ d ihd =>
      intro i hd hi
      have hil : i < x.f2.length := by omega
      have hil' : i < y.f2.length := by omega
      refine Ev.step (f := fun k => (galleyref9_like.f k x.f2[i].f0 x.f2[i].f1 x.f2[i].f2 x.f2[i].f3 x.f2[i].f4 x.f2[i].f5 x.f2[i].f6 y.f2[i].f0 y.f2[i].f1 y.f2[i].f2 y.f2[i].f3 y.f2[i].f4 y.f2[i].f5 y.f2[i].f6 all).bind fun t => if t = true then galleyref9_like.l0 k all ((i + 1 : Nat) : Int) x.f0 x.f1 x.f2 x.f3 x.f4 x.f5 x.f6 y.f0 y.f1 y.f2 y.f3 y.f4 y.f5 y.f6 else some false)
        (fun k => by simp only [galleyref9_like.l0]; rw [if_pos (by omega), if_pos (by omega), if_pos (by omega), rd32 _ _ hil, rd32 _ _ hil', wrap_next hil hm]) ?_
      refine Ev.bind (ih (pre x.f2[i]).length (Nat.lt_of_lt_of_le (pre_lt x i hil) hn) x.f2[i] y.f2[i] (Nat.le_refl _) (hx.child i hil)) ?_
      rw [likeL_drop all x.f2 y.f2 i hil hil']
      cases likeB all x.f2[i] y.f2[i]
      · exact Ev.now _
      · exact ihd (i + 1) (by omega) (by omega)
  have jt : Ev (fun k => galleyref9_like.j0 k all true x.f0 x.f1 x.f2 x.f3 x.f4 x.f5 x.f6 y.f0 y.f1 y.f2 y.f3 y.f4 y.f5 y.f6) false := Ev.step (f := fun _ => some false) (fun k => by simp only [galleyref9_like.j0, if_true]) (Ev.now _)
  have jl : Ev (fun k => galleyref9_like.j0 k all ((x.f2.length : Int) != (y.f2.length : Int)) x.f0 x.f1 x.f2 x.f3 x.f4 x.f5 x.f6 y.f0 y.f1 y.f2 y.f3 y.f4 y.f5 y.f6) (likeL all x.f2 y.f2) := by
    by_cases hl : x.f2.length = y.f2.length
    · refine Ev.step (f := fun k => galleyref9_like.l0 k all ((0 : Nat) : Int) x.f0 x.f1 x.f2 x.f3 x.f4 x.f5 x.f6 y.f0 y.f1 y.f2 y.f3 y.f4 y.f5 y.f6) (fun k => by simp only [galleyref9_like.j0]; rw [if_neg (by simp [hl])]; rfl) ?_
      exact loop hl x.f2.length 0 (by omega) (by omega)
    · refine Ev.step (f := fun _ => some false) (fun k => by simp only [galleyref9_like.j0]; rw [if_pos (by simp; omega)]) ?_
      rw [likeL_of_len all _ _ hl]
      exact Ev.now _
  rw [likeB_eq]
  by_cases c0 : x.f0 = y.f0
  rotate_left
  · rw [beq_eq_false_iff_ne.mpr c0]; simp only [Bool.false_and]
    exact Ev.step (fun k => by simp only [galleyref9_like.f]; rw [if_neg c0]) jt
  rw [beq_iff_eq.mpr c0, Bool.true_and]
  by_cases c1 : x.f1.toList = y.f1.toList
  rotate_left
  · rw [beq_eq_false_iff_ne.mpr c1]; simp only [Bool.false_and]
    exact Ev.step (fun k => by simp only [galleyref9_like.f]; rw [if_pos c0, if_neg c1]) jt
  rw [beq_iff_eq.mpr c1, Bool.true_and]
  by_cases c4 : x.f4 = y.f4
  rotate_left
  · have c4' : (x.f4 != y.f4) = true := by simp [c4]
    rw [beq_eq_false_iff_ne.mpr c4]; simp only [Bool.false_and]
    exact Ev.step (fun k => by simp only [galleyref9_like.f]; rw [if_pos c0, if_pos c1, if_pos c4']) jt
  have c4' : ¬ (x.f4 != y.f4) = true := by simp [c4]
  rw [beq_iff_eq.mpr c4, Bool.true_and]
  have rest : Ev (fun k => (galleyref9_texts.f k x.f5 y.f5).bind fun t => if t = true then ((galleyref9_texts.f k x.f6 y.f6).bind fun t => if t = true then galleyref9_like.j0 k all ((x.f2.length : Int) != (y.f2.length : Int)) x.f0 x.f1 x.f2 x.f3 x.f4 x.f5 x.f6 y.f0 y.f1 y.f2 y.f3 y.f4 y.f5 y.f6 else galleyref9_like.j0 k all true x.f0 x.f1 x.f2 x.f3 x.f4 x.f5 x.f6 y.f0 y.f1 y.f2 y.f3 y.f4 y.f5 y.f6) else galleyref9_like.j0 k all true x.f0 x.f1 x.f2 x.f3 x.f4 x.f5 x.f6 y.f0 y.f1 y.f2 y.f3 y.f4 y.f5 y.f6) (sEq x.f5 y.f5 && sEq x.f6 y.f6 && likeL all x.f2 y.f2) := by
    refine Ev.bind (texts9 x.f5 y.f5 hx.own.2.1) ?_
    cases sEq x.f5 y.f5
    · exact jt
    · refine Ev.bind (texts9 x.f6 y.f6 hx.own.2.2) ?_
      cases sEq x.f6 y.f6
      · exact jt
      · exact jl
  cases all
  · simp only [Bool.not_false, Bool.true_or, Bool.true_and]
    exact Ev.step (fun k => by simp only [galleyref9_like.f]; rw [if_pos c0, if_pos c1, if_neg c4', if_neg (by decide)]) rest
  · by_cases c3 : x.f3 = y.f3
    · have c3' : ¬ (x.f3 != y.f3) = true := by simp [c3]
      rw [beq_iff_eq.mpr c3, Bool.or_true, Bool.true_and]
      exact Ev.step (fun k => by simp only [galleyref9_like.f]; rw [if_pos c0, if_pos c1, if_neg c4', if_true, if_neg c3']) rest
    · have c3' : (x.f3 != y.f3) = true := by simp [c3]
      rw [beq_eq_false_iff_ne.mpr c3]; simp only [Bool.not_true, Bool.false_or, Bool.false_and]
      exact Ev.step (fun k => by simp only [galleyref9_like.f]; rw [if_pos c0, if_pos c1, if_neg c4', if_true, if_pos c3']) jt
theorem Like9 (x y : S32) (hx : Fin32 x) : Ev (fun k => galleyref9_Like.f k x.f0 x.f1 x.f2 x.f3 x.f4 x.f5 x.f6 y.f0 y.f1 y.f2 y.f3 y.f4 y.f5 y.f6) (likeB false x y) := Ev.bind (like9 false _ x y (Nat.le_refl _) hx) (Ev.now _)
mutual
def fewV : S32 → Nat → Nat
  | ⟨_, _, _, _, _, _, _⟩, 0 => 1000
  | ⟨_, b, l, _, _, e, f⟩, d + 1 => if 200 < b.size then 1000 else if 40 < e.length then 1000 else if 40 < f.length then 1000 else if 400 < l.length then 1000 else fewL l d 1
def fewL : List S32 → Nat → Nat → Nat
  | [], _, k => k
  | x :: r, d, k => if k < 1000 then fewL r d (k + fewV x d) else k
end
theorem fewV_zero (x : S32) : fewV x 0 = 1000 := by cases x; rfl
theorem fewV_succ (x : S32) (d : Nat) : fewV x (d + 1) = if 200 < x.f1.size then 1000 else if 40 < x.f5.length then 1000 else if 40 < x.f6.length then 1000 else if 400 < x.f2.length then 1000 else fewL x.f2 d 1 := by cases x; rfl
mutual
theorem fewV_le : ∀ (x : S32) (d : Nat), fewV x d ≤ 1000 * (d + 1)
  | ⟨_, _, _, _, _, _, _⟩, 0 => by simp [fewV]
  | ⟨_, b, l, _, _, e, f⟩, d + 1 => by
    unfold fewV
    repeat' split
    all_goals first | omega | (have := fewL_le l d 1; omega)
theorem fewL_le : ∀ (l : List S32) (d k : Nat), fewL l d k ≤ max k (1000 + 1000 * (d + 1))
  | [], d, k => by simp [fewL]; omega
  | x :: r, d, k => by
    unfold fewL
    split
    · have h1 := fewV_le x d
      have h2 := fewL_le r d (k + fewV x d)
      omega
    · omega
end
mutual
/-- What is few has so many nodes, all of them small. -/
theorem few_small : ∀ (x : S32) (d : Nat), fewV x d ≤ 400 → fewV x d = (pre x).length ∧ ∀ y ∈ pre x, y.f2.length ≤ 400 ∧ y.f5.length ≤ 40 ∧ y.f6.length ≤ 40
  | ⟨_, _, _, _, _, _, _⟩, 0, h => by simp [fewV] at h
  | ⟨a, b, l, c, c', e, f⟩, d + 1, h => by
    unfold fewV at h ⊢
    split at h
    · omega
    split at h
    · omega
    split at h
    · omega
    split at h
    · omega
    rename_i h1 h2 h3 h4
    rw [if_neg h1, if_neg h2, if_neg h3, if_neg h4]
    obtain ⟨h5, h6⟩ := fewL_small l d 1 h
    refine ⟨by rw [h5]; simp [pre]; omega, fun y hy => ?_⟩
    rw [pre_eq] at hy
    rcases List.mem_cons.1 hy with rfl | hy
    · exact (show l.length ≤ 400 ∧ e.length ≤ 40 ∧ f.length ≤ 40 by omega)
    · exact h6 y hy
theorem fewL_small : ∀ (l : List S32) (d k : Nat), fewL l d k ≤ 400 → fewL l d k = k + (preL l).length ∧ ∀ y ∈ preL l, y.f2.length ≤ 400 ∧ y.f5.length ≤ 40 ∧ y.f6.length ≤ 40
  | [], d, k, h => by simp [fewL, preL]
  | x :: r, d, k, h => by
    unfold fewL at h ⊢
    split at h
    · rename_i hk
      rw [if_pos hk]
      obtain ⟨h1, h2⟩ := fewL_small r d (k + fewV x d) h
      obtain ⟨h3, h4⟩ := few_small x d (by omega)
      refine ⟨by rw [h1, h3]; simp [preL]; omega, fun y hy => ?_⟩
      simp only [preL, List.mem_append] at hy
      rcases hy with hy | hy
      · exact h4 y hy
      · exact h2 y hy
    · omega
end
theorem few10 (n : Nat) : ∀ (x : S32) (d : Nat), (pre x).length ≤ n → d ≤ 40 → Ev (fun k => galleylaw10_few.f k x.f0 x.f1 x.f2 x.f3 x.f4 x.f5 x.f6 (d : Int)) (fewV x d : Int) := by
  induction n using Nat.strongRecOn with
  | _ n ih =>
  intro x d hn hd
  have jt : Ev (fun k => galleylaw10_few.j0 k (d : Int) true x.f0 x.f1 x.f2 x.f3 x.f4 x.f5 x.f6) (1000 : Int) := Ev.step (f := fun _ => some 1000) (fun k => by simp only [galleylaw10_few.j0, if_true]) (Ev.now _)
  cases d with
  | zero =>
    rw [fewV_zero]
    exact Ev.step (fun k => by simp only [galleylaw10_few.f]; rw [if_pos (by omega)]) jt
  | succ d =>
    rw [fewV_succ]
    have hne : ¬ ((d + 1 : Nat) : Int) = 0 := by omega
    by_cases h1 : 200 < x.f1.size
    · rw [if_pos h1]
      exact Ev.step (fun k => by simp only [galleylaw10_few.f]; rw [if_neg hne, if_pos (by omega)]) jt
    rw [if_neg h1]
    by_cases h2 : 40 < x.f5.length
    · rw [if_pos h2]
      exact Ev.step (fun k => by simp only [galleylaw10_few.f]; rw [if_neg hne, if_neg (by omega), if_pos (by omega)]) jt
    rw [if_neg h2]
    by_cases h3 : 40 < x.f6.length
    · rw [if_pos h3]
      exact Ev.step (fun k => by simp only [galleylaw10_few.f]; rw [if_neg hne, if_neg (by omega), if_neg (by omega), if_pos (by omega)]) jt
    rw [if_neg h3]
    refine Ev.step (f := fun k => galleylaw10_few.j0 k ((d + 1 : Nat) : Int) (decide ((x.f2.length : Int) > 400)) x.f0 x.f1 x.f2 x.f3 x.f4 x.f5 x.f6) (fun k => by simp only [galleylaw10_few.f]; rw [if_neg hne, if_neg (by omega), if_neg (by omega), if_neg (by omega)]) ?_
    by_cases h4 : 400 < x.f2.length
    · rw [if_pos h4, decide_eq_true (show (x.f2.length : Int) > 400 by omega)]
      exact jt
    rw [if_neg h4, decide_eq_false (show ¬ (x.f2.length : Int) > 400 by omega)]
    have loop : ∀ m i : Nat, ∀ a : Nat, a ≤ 1000 * 42 → x.f2.length - i = m → i ≤ x.f2.length → Ev (fun k => galleylaw10_few.l0 k ((d + 1 : Nat) : Int) (a : Int) (i : Int) x.f0 x.f1 x.f2 x.f3 x.f4 x.f5 x.f6) (fewL (x.f2.drop i) d a : Int) := by
      intro m
      induction m with
      | zero =>
        intro i a ha hm hi
        refine Ev.step (f := fun _ => some (a : Int)) (fun k => by simp only [galleylaw10_few.l0]; rw [if_neg (by omega)]) ?_
        rw [List.drop_eq_nil_of_le (by omega)]
        exact Ev.now _
      | succ m ihm =>
        intro i a ha hm hi
        have hil : i < x.f2.length := by omega
        rw [List.drop_eq_getElem_cons hil]
        unfold fewL
        by_cases hk : a < 1000
        · rw [if_pos hk]
          have hv := fewV_le x.f2[i] d
          refine Ev.step (f := fun k => (galleylaw10_few.f k x.f2[i].f0 x.f2[i].f1 x.f2[i].f2 x.f2[i].f3 x.f2[i].f4 x.f2[i].f5 x.f2[i].f6 (d : Int)).bind fun t => galleylaw10_few.l0 k ((d + 1 : Nat) : Int) (wrap64 ((a : Int) + t)) ((i + 1 : Nat) : Int) x.f0 x.f1 x.f2 x.f3 x.f4 x.f5 x.f6)
            (fun k => by simp only [galleylaw10_few.l0]; rw [if_pos (by omega), if_pos (by omega), if_pos (by omega), rd32 _ _ hil, wrap_next hil (by omega), show wrap64 (((d + 1 : Nat) : Int) - 1) = (d : Int) by unfold wrap64; omega]) ?_
          refine Ev.bind (ih (pre x.f2[i]).length (Nat.lt_of_lt_of_le (pre_lt x i hil) hn) x.f2[i] d (Nat.le_refl _) (by omega)) ?_
          rw [show wrap64 ((a : Int) + (fewV x.f2[i] d : Int)) = ((a + fewV x.f2[i] d : Nat) : Int) by unfold wrap64; omega]
          exact ihm (i + 1) (a + fewV x.f2[i] d) (by omega) (by omega) (by omega)
        · rw [if_neg hk]
          exact Ev.step (f := fun _ => some (a : Int)) (fun k => by simp only [galleylaw10_few.l0]; rw [if_pos (by omega), if_neg (by omega)]) (Ev.now _)
    exact Ev.step (f := fun k => galleylaw10_few.l0 k ((d + 1 : Nat) : Int) ((1 : Nat) : Int) ((0 : Nat) : Int) x.f0 x.f1 x.f2 x.f3 x.f4 x.f5 x.f6) (fun k => by simp only [galleylaw10_few.j0]; rw [if_neg (by decide)]; rfl) (loop x.f2.length 0 1 (by omega) (by omega) (by omega))
theorem Few10 (x : S32) : Ev (fun k => galleylaw10_Few.f k x.f0 x.f1 x.f2 x.f3 x.f4 x.f5 x.f6) (decide (fewV x 40 ≤ 400)) := by
  refine Ev.bind (few10 _ x 40 (Nat.le_refl _) (Nat.le_refl _)) ?_
  have : decide ((fewV x 40 : Int) ≤ 400) = decide (fewV x 40 ≤ 400) := by
    by_cases h : fewV x 40 ≤ 400
    · rw [decide_eq_true h, decide_eq_true (by omega)]
    · rw [decide_eq_false h, decide_eq_false (by omega)]
  rw [← this]
  exact Ev.now _
theorem few_fin {x : S32} (h : fewV x 40 ≤ 400) : Fin32 x := fun y hy => by
  obtain ⟨h1, h2, h3⟩ := (few_small x 40 h).2 y hy
  omega
mutual
theorem likeB_refl (b : Bool) : ∀ x : S32, likeB b x x = true
  | ⟨a, s, l, c, d, e, f⟩ => by
    rw [likeB_eq]
    simp [sEq_refl, likeL_refl b l]
theorem likeL_refl (b : Bool) : ∀ l : List S32, likeL b l l = true
  | [] => by simp [likeL]
  | x :: r => by simp [likeL, likeB_refl b x, likeL_refl b r]
end
structure NF (w : World) (ok : Nat → Prop) (x : S32) (A2 : Option Addr) (c2 : Nat) (A5 : Option Addr) (c5 : Nat) (A6 : Option Addr) (c6 : Nat) : Prop where
  g2 : Kd.F k32 w ok A2 x.f2.length x.f2
  l2 : x.f2.length ≤ c2
  g5 : Kd.F Kd.string w ok A5 x.f5.length x.f5
  l5 : x.f5.length ≤ c5
  g6 : Kd.F Kd.string w ok A6 x.f6.length x.f6
  l6 : x.f6.length ≤ c6
theorem NF.nd {w : World} {ok : Nat → Prop} {x : S32} {A2 : Option Addr} {c2 : Nat} {A5 : Option Addr} {c5 : Nat} {A6 : Option Addr} {c6 : Nat} (h : NF w ok x A2 c2 A5 c5 A6 c6) : Nd w x A2 c2 A5 c5 A6 c6 := ⟨Kd.F_now h.g2, h.l2, Kd.F_now h.g5, h.l5, Kd.F_now h.g6, h.l6⟩
theorem NF.below {w w' : World} {ok : Nat → Prop} {x : S32} {A2 : Option Addr} {c2 : Nat} {A5 : Option Addr} {c5 : Nat} {A6 : Option Addr} {c6 : Nat} (h : NF w ok x A2 c2 A5 c5 A6 c6) (hb : Below w.heap.size w w') : NF w' ok x A2 c2 A5 c5 A6 c6 := ⟨Kd.F_below h.g2 hb, h.l2, Kd.F_below h.g5 hb, h.l5, Kd.F_below h.g6 hb, h.l6⟩
theorem NF.mono {w : World} {ok ok' : Nat → Prop} {x : S32} {A2 : Option Addr} {c2 : Nat} {A5 : Option Addr} {c5 : Nat} {A6 : Option Addr} {c6 : Nat} (h : NF w ok x A2 c2 A5 c5 A6 c6) (hk : ∀ k, ok k → ok' k) : NF w ok' x A2 c2 A5 c5 A6 c6 := ⟨Kd.F_mono h.g2 hk, h.l2, Kd.F_mono h.g5 hk, h.l5, Kd.F_mono h.g6 hk, h.l6⟩
theorem NF.bound {w : World} {ok : Nat → Prop} {x : S32} {A2 : Option Addr} {c2 : Nat} {A5 : Option Addr} {c5 : Nat} {A6 : Option Addr} {c6 : Nat} (h : NF w ok x A2 c2 A5 c5 A6 c6) : NF w (fun k => ok k ∧ k < w.heap.size) x A2 c2 A5 c5 A6 c6 := ⟨Kd.F_bound h.g2, h.l2, Kd.F_bound h.g5, h.l5, Kd.F_bound h.g6, h.l6⟩
theorem F_all {α : Type} {d : Kd α} (hd : Kd.Heap d) {w : World} {A : Option Addr} {n : Nat} {xs : List α} (h : d.C w A n xs) : Kd.F d w (fun k => k < w.heap.size) A n xs := fun W' hW => hd.C (fun k hk => hW k hk hk) h
theorem NF.step {w w' : World} {ok : Nat → Prop} {x : S32} {A2 : Option Addr} {c2 : Nat} {A5 : Option Addr} {c5 : Nat} {A6 : Option Addr} {c6 : Nat} (h : NF w ok x A2 c2 A5 c5 A6 c6) (hk : ∀ k, ok k → w'.heap[k]? = w.heap[k]?) : NF w' ok x A2 c2 A5 c5 A6 c6 := ⟨Kd.F_step h.g2 (fun k h _ => hk k h), h.l2, Kd.F_step h.g5 (fun k h _ => hk k h), h.l5, Kd.F_step h.g6 (fun k h _ => hk k h), h.l6⟩
mutual
theorem few_text : ∀ (x : S32) (d : Nat), fewV x d ≤ 400 → ∀ y ∈ pre x, y.f1.size ≤ 200
  | ⟨_, _, _, _, _, _, _⟩, 0, h => by simp [fewV] at h
  | ⟨a, b, l, c, c', e, f⟩, d + 1, h => by
    unfold fewV at h
    split at h
    · omega
    split at h
    · omega
    split at h
    · omega
    split at h
    · omega
    rename_i h1 h2 h3 h4
    intro y hy
    rw [pre_eq] at hy
    rcases List.mem_cons.1 hy with rfl | hy
    · exact (show b.size ≤ 200 by omega)
    · exact fewL_text l d 1 h y hy
theorem fewL_text : ∀ (l : List S32) (d k : Nat), fewL l d k ≤ 400 → ∀ y ∈ preL l, y.f1.size ≤ 200
  | [], d, k, h => by simp [preL]
  | x :: r, d, k, h => by
    unfold fewL at h
    split at h
    · have h2 := (fewL_small r d (k + fewV x d) h).1
      intro y hy
      simp only [preL, List.mem_append] at hy
      rcases hy with hy | hy
      · exact few_text x d (by omega) y hy
      · exact fewL_text r d _ h y hy
    · omega
end
def small10 (x : S32) : Prop := ∀ y ∈ pre x, y.f1.size ≤ 200 ∧ y.f2.length ≤ 400 ∧ y.f5.length ≤ 40 ∧ y.f6.length ≤ 40
theorem mem_parts {x y q : S32} (hy : y ∈ x.f2) (hq : q ∈ pre y) : q ∈ pre x := by
  obtain ⟨i, hi, rfl⟩ := List.mem_iff_getElem.1 hy
  rw [pre_eq]
  exact List.mem_cons_of_mem _ (mem_preL _ i hi q hq)
theorem parts_lt {x y : S32} (hy : y ∈ x.f2) : (pre y).length < (pre x).length := by
  obtain ⟨i, hi, rfl⟩ := List.mem_iff_getElem.1 hy
  exact pre_lt x i hi
end Go.Proofs.YtjlnlonioknkhaaDoor.PL

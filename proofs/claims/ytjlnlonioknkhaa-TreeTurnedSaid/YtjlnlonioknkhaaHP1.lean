/- Plain: what the document's answers for trees come to. -/
import Derived.Test.YtjlnlonioknkhaaHEv
import Derived.Test.YtjlnlonioknkhaaPAx6
import Derived.Test.YtjlnlonioknkhaaPAx8
import Derived.Test.YtjlnlonioknkhaaPAx12
import Derived.Test.YtjlnlonioknkhaaPAx13
import Derived.Test.YtjlnlonioknkhaaPAx14
import Derived.Test.YtjlnlonioknkhaaPAx9
import Derived.Test.YtjlnlonioknkhaaPAx15
import Derived.Test.YtjlnlonioknkhaaPAx10
import Derived.Test.YtjlnlonioknkhaaPAx4
namespace Go.Proofs.Ytjlnlonioknkhaa.PA
open Go.RowKit Go.Proofs.YtjlnlonioknkhaaW.PrintWords Go.Proofs.YtjlnlonioknkhaaW.PrintLast Go.Proofs.YtjlnlonioknkhaaW.PrintMore
set_option linter.unusedVariables false
set_option linter.unusedSimpArgs false

/-- Its lists are no longer than a slice may be. -/
def Fin26 (x : S26) : Prop := ∀ y ∈ pre x, y.f2.length ≤ 9223372036854775807 ∧ y.f5.length ≤ 9223372036854775807 ∧ y.f6.length ≤ 9223372036854775807
theorem mem_self (x : S26) : x ∈ pre x := by rw [pre_eq]; simp
theorem mem_preL (l : List S26) (i : Nat) (h : i < l.length) (y : S26) (hy : y ∈ pre l[i]) : y ∈ preL l := by
  have h1 : preL l = preL (l.take (i + 1)) ++ preL (l.drop (i + 1)) := by rw [← preL_append, List.take_append_drop]
  rw [h1, preL_take l i h]
  simp [hy]
theorem mem_child (x : S26) (i : Nat) (h : i < x.f2.length) (y : S26) (hy : y ∈ pre x.f2[i]) : y ∈ pre x := by
  rw [pre_eq x]; exact List.mem_cons_of_mem _ (mem_preL x.f2 i h y hy)
theorem Fin26.child {x : S26} (hx : Fin26 x) (i : Nat) (h : i < x.f2.length) : Fin26 x.f2[i] := fun y hy => hx y (mem_child x i h y hy)
theorem Fin26.own {x : S26} (hx : Fin26 x) : x.f2.length ≤ 9223372036854775807 ∧ x.f5.length ≤ 9223372036854775807 ∧ x.f6.length ≤ 9223372036854775807 := hx x (mem_self x)
theorem preL_drop (l : List S26) (i : Nat) (h : i < l.length) : preL (l.drop i) = pre l[i] ++ preL (l.drop (i + 1)) := by rw [List.drop_eq_getElem_cons h]; rfl

/-! ### lists of texts -/
theorem texts9_loop (l m : List ByteArray) (hlm : l.length = m.length) (hn : l.length ≤ 9223372036854775807) (d : Nat) : ∀ i : Nat, l.length - i = d → i ≤ l.length → Ev (fun k => galleyref9_texts.l0 k l m (i : Int)) (sEq (l.drop i) (m.drop i)) := by
  induction d with
  | zero =>
    intro i hd hi
    refine Ev.step (f := fun _ => some true) (fun k => by simp only [galleyref9_texts.l0]; rw [if_neg (by omega)]) ?_
    rw [List.drop_eq_nil_of_le (by omega), List.drop_eq_nil_of_le (by omega)]
    exact Ev.now _
  | succ d ih =>
    intro i hd hi
    have hil : i < l.length := by omega
    have him : i < m.length := by omega
    rw [sEq_drop l m i hil him]
    by_cases e : l[i].toList = m[i].toList
    · refine Ev.step (f := fun k => galleyref9_texts.l0 k l m ((i + 1 : Nat) : Int)) (fun k => by simp only [galleyref9_texts.l0]; rw [if_pos (by omega), if_pos (by omega), if_pos (by omega), rdOf_nat l i hil, rdOf_nat m i him, if_pos e, wrap_next hil hn]) ?_
      have := ih (i + 1) (by omega) (by omega)
      rw [beq_iff_eq.mpr e, Bool.true_and]
      exact this
    · refine Ev.step (f := fun _ => some false) (fun k => by simp only [galleyref9_texts.l0]; rw [if_pos (by omega), if_pos (by omega), if_pos (by omega), rdOf_nat l i hil, rdOf_nat m i him, if_neg e]) ?_
      rw [beq_eq_false_iff_ne.mpr e, Bool.false_and]
      exact Ev.now _
theorem texts9 (l m : List ByteArray) (hn : l.length ≤ 9223372036854775807) : Ev (fun k => galleyref9_texts.f k l m) (sEq l m) := by
  by_cases e : l.length = m.length
  · exact Ev.congr (f := fun k => galleyref9_texts.l0 k l m ((0 : Nat) : Int)) (fun k => by unfold galleyref9_texts.f; rw [if_pos (by omega)]; rfl) (texts9_loop l m e hn l.length 0 (by omega) (by omega))
  · rw [sEq_of_len l m e]
    exact Ev.congr (f := fun _ => some false) (fun k => by unfold galleyref9_texts.f; rw [if_neg (by omega)]) (Ev.now _)
theorem texts10_loop (l m : List ByteArray) (hlm : l.length = m.length) (hn : l.length ≤ 9223372036854775807) (d : Nat) : ∀ i : Nat, l.length - i = d → i ≤ l.length → Ev (fun k => galleylaw10_texts.l0 k l m (i : Int)) (sEq (l.drop i) (m.drop i)) := by
  induction d with
  | zero =>
    intro i hd hi
    refine Ev.step (f := fun _ => some true) (fun k => by simp only [galleylaw10_texts.l0]; rw [if_neg (by omega)]) ?_
    rw [List.drop_eq_nil_of_le (by omega), List.drop_eq_nil_of_le (by omega)]
    exact Ev.now _
  | succ d ih =>
    intro i hd hi
    have hil : i < l.length := by omega
    have him : i < m.length := by omega
    rw [sEq_drop l m i hil him]
    by_cases e : l[i].toList = m[i].toList
    · refine Ev.step (f := fun k => galleylaw10_texts.l0 k l m ((i + 1 : Nat) : Int)) (fun k => by simp only [galleylaw10_texts.l0]; rw [if_pos (by omega), if_pos (by omega), if_pos (by omega), rdOf_nat l i hil, rdOf_nat m i him, if_pos e, wrap_next hil hn]) ?_
      have := ih (i + 1) (by omega) (by omega)
      rw [beq_iff_eq.mpr e, Bool.true_and]
      exact this
    · refine Ev.step (f := fun _ => some false) (fun k => by simp only [galleylaw10_texts.l0]; rw [if_pos (by omega), if_pos (by omega), if_pos (by omega), rdOf_nat l i hil, rdOf_nat m i him, if_neg e]) ?_
      rw [beq_eq_false_iff_ne.mpr e, Bool.false_and]
      exact Ev.now _
theorem texts10 (l m : List ByteArray) (hn : l.length ≤ 9223372036854775807) : Ev (fun k => galleylaw10_texts.f k l m) (sEq l m) := by
  by_cases e : l.length = m.length
  · exact Ev.congr (f := fun k => galleylaw10_texts.l0 k l m ((0 : Nat) : Int)) (fun k => by unfold galleylaw10_texts.f; rw [if_pos (by omega)]; rfl) (texts10_loop l m e hn l.length 0 (by omega) (by omega))
  · rw [sEq_of_len l m e]
    exact Ev.congr (f := fun _ => some false) (fun k => by unfold galleylaw10_texts.f; rw [if_neg (by omega)]) (Ev.now _)
theorem sEq_refl : ∀ l : List ByteArray, sEq l l = true
  | [] => rfl
  | a :: r => by simp [sEq, sEq_refl r]

/-! ### how many nodes -/
theorem count9 (n : Nat) : ∀ x : S26, (pre x).length ≤ n → Fin26 x → Ev (fun k => galleyref9_Count.f k x.f0 x.f1 x.f2 x.f3 x.f4 x.f5 x.f6) (wrap64 (pre x).length) := by
  induction n using Nat.strongRecOn with
  | _ n ih =>
  intro x hn hx
  have hm := hx.own.1
  have loop : ∀ d i : Nat, ∀ a : Int, x.f2.length - i = d → i ≤ x.f2.length → Ev (fun k => galleyref9_Count.l0 k (wrap64 a) (i : Int) x.f0 x.f1 x.f2 x.f3 x.f4 x.f5 x.f6) (wrap64 (a + (preL (x.f2.drop i)).length)) := by
    intro d
    induction d with
    | zero =>
      intro i a hd hi
      refine Ev.step (f := fun _ => some (wrap64 a)) (fun k => by simp only [galleyref9_Count.l0]; rw [if_neg (by omega)]) ?_
      rw [List.drop_eq_nil_of_le (by omega)]
      simpa [preL] using Ev.now (wrap64 a)
    | succ d ihd =>
      intro i a hd hi
      have hil : i < x.f2.length := by omega
      refine Ev.step (f := fun k => (galleyref9_Count.f k x.f2[i].f0 x.f2[i].f1 x.f2[i].f2 x.f2[i].f3 x.f2[i].f4 x.f2[i].f5 x.f2[i].f6).bind fun t => galleyref9_Count.l0 k (wrap64 (wrap64 a + t)) ((i + 1 : Nat) : Int) x.f0 x.f1 x.f2 x.f3 x.f4 x.f5 x.f6)
        (fun k => by simp only [galleyref9_Count.l0]; rw [if_pos (by omega), if_pos (by omega), rd26 _ _ hil, wrap_next hil hm]) ?_
      refine Ev.bind (ih (pre x.f2[i]).length (Nat.lt_of_lt_of_le (pre_lt x i hil) hn) x.f2[i] (Nat.le_refl _) (hx.child i hil)) ?_
      have h := ihd (i + 1) (a + (pre x.f2[i]).length) (by omega) (by omega)
      rw [wrap_add, preL_drop x.f2 i hil, List.length_append]
      have e : a + (((pre x.f2[i]).length + (preL (x.f2.drop (i + 1))).length : Nat) : Int) = a + (pre x.f2[i]).length + (preL (x.f2.drop (i + 1))).length := by omega
      rw [e]
      exact h
  have h := loop x.f2.length 0 1 (by omega) (by omega)
  refine Ev.step (f := fun k => galleyref9_Count.l0 k 1 0 x.f0 x.f1 x.f2 x.f3 x.f4 x.f5 x.f6) (fun k => by simp only [galleyref9_Count.f]) ?_
  rw [pre_eq x, List.length_cons]
  have e1 : wrap64 1 = 1 := by unfold wrap64; omega
  have e : ((((preL x.f2).length + 1 : Nat)) : Int) = 1 + ((preL (x.f2.drop 0)).length : Int) := by rw [List.drop_zero]; omega
  rw [e]
  rw [e1] at h
  exact h

/-! ### alike -/
theorem like9 (all : Bool) (n : Nat) : ∀ x y : S26, (pre x).length ≤ n → Fin26 x → Ev (fun k => galleyref9_like.f k x.f0 x.f1 x.f2 x.f3 x.f4 x.f5 x.f6 y.f0 y.f1 y.f2 y.f3 y.f4 y.f5 y.f6 all) (likeB all x y) := by
  induction n using Nat.strongRecOn with
  | _ n ih =>
  intro x y hn hx
  have hm := hx.own.1
  have loop : x.f2.length = y.f2.length → ∀ d i : Nat, x.f2.length - i = d → i ≤ x.f2.length → Ev (fun k => galleyref9_like.l0 k all (i : Int) x.f0 x.f1 x.f2 x.f3 x.f4 x.f5 x.f6 y.f0 y.f1 y.f2 y.f3 y.f4 y.f5 y.f6) (likeL all (x.f2.drop i) (y.f2.drop i)) := by
    intro hl d
    induction d with
    | zero =>
      intro i hd hi
      refine Ev.step (f := fun _ => some true) (fun k => by simp only [galleyref9_like.l0]; rw [if_neg (by omega)]) ?_
      rw [List.drop_eq_nil_of_le (by omega), List.drop_eq_nil_of_le (by omega)]
      exact Ev.now _
    | succ d ihd =>
      intro i hd hi
      have hil : i < x.f2.length := by omega
      have hil' : i < y.f2.length := by omega
      refine Ev.step (f := fun k => (galleyref9_like.f k x.f2[i].f0 x.f2[i].f1 x.f2[i].f2 x.f2[i].f3 x.f2[i].f4 x.f2[i].f5 x.f2[i].f6 y.f2[i].f0 y.f2[i].f1 y.f2[i].f2 y.f2[i].f3 y.f2[i].f4 y.f2[i].f5 y.f2[i].f6 all).bind fun t => if t = true then galleyref9_like.l0 k all ((i + 1 : Nat) : Int) x.f0 x.f1 x.f2 x.f3 x.f4 x.f5 x.f6 y.f0 y.f1 y.f2 y.f3 y.f4 y.f5 y.f6 else some false)
        (fun k => by simp only [galleyref9_like.l0]; rw [if_pos (by omega), if_pos (by omega), if_pos (by omega), rd26 _ _ hil, rd26 _ _ hil', wrap_next hil hm]) ?_
      refine Ev.bind (ih (pre x.f2[i]).length (Nat.lt_of_lt_of_le (pre_lt x i hil) hn) x.f2[i] y.f2[i] (Nat.le_refl _) (hx.child i hil)) ?_
      rw [likeL_drop all x.f2 y.f2 i hil hil']
      cases likeB all x.f2[i] y.f2[i]
      · exact Ev.now _
      · exact ihd (i + 1) (by omega) (by omega)
  have jt : Ev (fun k => galleyref9_like.j0 k all true x.f0 x.f1 x.f2 x.f3 x.f4 x.f5 x.f6 y.f0 y.f1 y.f2 y.f3 y.f4 y.f5 y.f6) false := Ev.step (f := fun _ => some false) (fun k => by simp only [galleyref9_like.j0, if_true]) (Ev.now _)
  have jl : Ev (fun k => galleyref9_like.j0 k all ((x.f2.length : Int) != (y.f2.length : Int)) x.f0 x.f1 x.f2 x.f3 x.f4 x.f5 x.f6 y.f0 y.f1 y.f2 y.f3 y.f4 y.f5 y.f6) (likeL all x.f2 y.f2) := by
    by_cases hl : x.f2.length = y.f2.length
    · refine Ev.step (f := fun k => galleyref9_like.l0 k all ((0 : Nat) : Int) x.f0 x.f1 x.f2 x.f3 x.f4 x.f5 x.f6 y.f0 y.f1 y.f2 y.f3 y.f4 y.f5 y.f6) (fun k => by simp only [galleyref9_like.j0]; rw [if_neg (by simp [hl])]; rfl) ?_
      exact loop hl x.f2.length 0 (by omega) (by omega)
    · refine Ev.step (f := fun _ => some false) (fun k => by simp only [galleyref9_like.j0]; rw [if_pos (by simp; omega)]) ?_
      rw [likeL_of_len all _ _ hl]
      exact Ev.now _
  rw [likeB_eq]
  by_cases c0 : x.f0 = y.f0
  rotate_left
  · rw [beq_eq_false_iff_ne.mpr c0]; simp only [Bool.false_and]
    exact Ev.step (fun k => by simp only [galleyref9_like.f]; rw [if_neg c0]) jt
  rw [beq_iff_eq.mpr c0, Bool.true_and]
  by_cases c1 : x.f1.toList = y.f1.toList
  rotate_left
  · rw [beq_eq_false_iff_ne.mpr c1]; simp only [Bool.false_and]
    exact Ev.step (fun k => by simp only [galleyref9_like.f]; rw [if_pos c0, if_neg c1]) jt
  rw [beq_iff_eq.mpr c1, Bool.true_and]
  by_cases c4 : x.f4 = y.f4
  rotate_left
  · have c4' : (x.f4 != y.f4) = true := by simp [c4]
    rw [beq_eq_false_iff_ne.mpr c4]; simp only [Bool.false_and]
    exact Ev.step (fun k => by simp only [galleyref9_like.f]; rw [if_pos c0, if_pos c1, if_pos c4']) jt
  have c4' : ¬ (x.f4 != y.f4) = true := by simp [c4]
  rw [beq_iff_eq.mpr c4, Bool.true_and]
  have rest : Ev (fun k => (galleyref9_texts.f k x.f5 y.f5).bind fun t => if t = true then ((galleyref9_texts.f k x.f6 y.f6).bind fun t => if t = true then galleyref9_like.j0 k all ((x.f2.length : Int) != (y.f2.length : Int)) x.f0 x.f1 x.f2 x.f3 x.f4 x.f5 x.f6 y.f0 y.f1 y.f2 y.f3 y.f4 y.f5 y.f6 else galleyref9_like.j0 k all true x.f0 x.f1 x.f2 x.f3 x.f4 x.f5 x.f6 y.f0 y.f1 y.f2 y.f3 y.f4 y.f5 y.f6) else galleyref9_like.j0 k all true x.f0 x.f1 x.f2 x.f3 x.f4 x.f5 x.f6 y.f0 y.f1 y.f2 y.f3 y.f4 y.f5 y.f6) (sEq x.f5 y.f5 && sEq x.f6 y.f6 && likeL all x.f2 y.f2) := by
    refine Ev.bind (texts9 x.f5 y.f5 hx.own.2.1) ?_
    cases sEq x.f5 y.f5
    · exact jt
    · refine Ev.bind (texts9 x.f6 y.f6 hx.own.2.2) ?_
      cases sEq x.f6 y.f6
      · exact jt
      · exact jl
  cases all
  · simp only [Bool.not_false, Bool.true_or, Bool.true_and]
    exact Ev.step (fun k => by simp only [galleyref9_like.f]; rw [if_pos c0, if_pos c1, if_neg c4', if_neg (by decide)]) rest
  · by_cases c3 : x.f3 = y.f3
    · have c3' : ¬ (x.f3 != y.f3) = true := by simp [c3]
      rw [beq_iff_eq.mpr c3, Bool.or_true, Bool.true_and]
      exact Ev.step (fun k => by simp only [galleyref9_like.f]; rw [if_pos c0, if_pos c1, if_neg c4', if_true, if_neg c3']) rest
    · have c3' : (x.f3 != y.f3) = true := by simp [c3]
      rw [beq_eq_false_iff_ne.mpr c3]; simp only [Bool.not_true, Bool.false_or, Bool.false_and]
      exact Ev.step (fun k => by simp only [galleyref9_like.f]; rw [if_pos c0, if_pos c1, if_neg c4', if_true, if_pos c3']) jt
theorem Same9 (x y : S26) (hx : Fin26 x) : Ev (fun k => galleyref9_Same.f k x.f0 x.f1 x.f2 x.f3 x.f4 x.f5 x.f6 y.f0 y.f1 y.f2 y.f3 y.f4 y.f5 y.f6) (likeB true x y) := Ev.bind (like9 true _ x y (Nat.le_refl _) hx) (Ev.now _)
theorem Like9 (x y : S26) (hx : Fin26 x) : Ev (fun k => galleyref9_Like.f k x.f0 x.f1 x.f2 x.f3 x.f4 x.f5 x.f6 y.f0 y.f1 y.f2 y.f3 y.f4 y.f5 y.f6) (likeB false x y) := Ev.bind (like9 false _ x y (Nat.le_refl _) hx) (Ev.now _)

/-! ### forced -/
theorem forced9 (n : Nat) : ∀ x : S26, (pre x).length ≤ n → Fin26 x → Ev (fun k => galleyref9_Forced.f k x.f0 x.f1 x.f2 x.f3 x.f4 x.f5 x.f6) ((pre x).any forced1) := by
  induction n using Nat.strongRecOn with
  | _ n ih =>
  intro x hn hx
  have hm := hx.own.1
  have loop : ∀ d i : Nat, x.f2.length - i = d → i ≤ x.f2.length → Ev (fun k => galleyref9_Forced.l0 k (i : Int) x.f0 x.f1 x.f2 x.f3 x.f4 x.f5 x.f6) ((preL (x.f2.drop i)).any forced1) := by
    intro d
    induction d with
    | zero =>
      intro i hd hi
      refine Ev.step (f := fun _ => some false) (fun k => by simp only [galleyref9_Forced.l0]; rw [if_neg (by omega)]) ?_
      rw [List.drop_eq_nil_of_le (by omega)]
      exact Ev.now _
    | succ d ihd =>
      intro i hd hi
      have hil : i < x.f2.length := by omega
      refine Ev.step (f := fun k => (galleyref9_Forced.f k x.f2[i].f0 x.f2[i].f1 x.f2[i].f2 x.f2[i].f3 x.f2[i].f4 x.f2[i].f5 x.f2[i].f6).bind fun t => if t = true then some true else galleyref9_Forced.l0 k ((i + 1 : Nat) : Int) x.f0 x.f1 x.f2 x.f3 x.f4 x.f5 x.f6)
        (fun k => by simp only [galleyref9_Forced.l0]; rw [if_pos (by omega), if_pos (by omega), rd26 _ _ hil, wrap_next hil hm]) ?_
      refine Ev.bind (ih (pre x.f2[i]).length (Nat.lt_of_lt_of_le (pre_lt x i hil) hn) x.f2[i] (Nat.le_refl _) (hx.child i hil)) ?_
      rw [preL_drop x.f2 i hil, List.any_append]
      cases (pre x.f2[i]).any forced1
      · exact ihd (i + 1) (by omega) (by omega)
      · exact Ev.now _
  have jn : ∀ b : Bool, b = forced1 x → Ev (fun k => galleyref9_Forced.j0 k b x.f0 x.f1 x.f2 x.f3 x.f4 x.f5 x.f6) ((pre x).any forced1) := by
    intro b hb
    rw [pre_eq x, List.any_cons, ← hb]
    cases b
    · refine Ev.step (f := fun k => galleyref9_Forced.l0 k ((0 : Nat) : Int) x.f0 x.f1 x.f2 x.f3 x.f4 x.f5 x.f6) (fun k => by simp only [galleyref9_Forced.j0]; rw [if_neg (by decide)]; rfl) ?_
      exact loop x.f2.length 0 (by omega) (by omega)
    · exact Ev.step (f := fun _ => some true) (fun k => by simp only [galleyref9_Forced.j0, if_true]) (Ev.now _)
  by_cases c3 : x.f3 = true
  · exact Ev.step (fun k => by simp only [galleyref9_Forced.f]; rw [if_pos c3]) (jn true (by simp [forced1, c3]))
  · by_cases c5 : (x.f5.length : Int) > 0
    · exact Ev.step (fun k => by simp only [galleyref9_Forced.f]; rw [if_neg c3, if_pos c5]) (jn true (by simp only [forced1, decide_eq_true (show 0 < x.f5.length by omega), Bool.or_true, Bool.true_or]))
    · refine Ev.step (fun k => by simp only [galleyref9_Forced.f]; rw [if_neg c3, if_neg c5]) (jn (decide ((x.f6.length : Int) > 0)) ?_)
      have e3 : x.f3 = false := by simpa using c3
      simp only [forced1, e3, decide_eq_false (show ¬ 0 < x.f5.length by omega), Bool.false_or]
      by_cases c6 : 0 < x.f6.length
      · rw [decide_eq_true c6, decide_eq_true (by omega)]
      · rw [decide_eq_false c6, decide_eq_false (by omega)]

/-! ### comments -/
mutual
def nts : S26 → List ByteArray
  | ⟨_, _, l, _, _, e, f⟩ => e ++ ntsL l ++ f
def ntsL : List S26 → List ByteArray
  | [] => []
  | x :: r => nts x ++ ntsL r
end
theorem nts_eq (x : S26) : nts x = x.f5 ++ ntsL x.f2 ++ x.f6 := by cases x; simp [nts]
theorem ntsL_append (a b : List S26) : ntsL (a ++ b) = ntsL a ++ ntsL b := by
  induction a with
  | nil => simp [ntsL]
  | cons x r ih => simp [ntsL, ih, List.append_assoc]
theorem ntsL_take (l : List S26) (i : Nat) (h : i < l.length) : ntsL (l.take (i + 1)) = ntsL (l.take i) ++ nts l[i] := by
  rw [List.take_succ_eq_append_getElem h, ntsL_append]; simp [ntsL]
theorem ntsL_le (l : List S26) (i : Nat) : (ntsL (l.take i)).length ≤ (ntsL l).length := by
  have : ntsL l = ntsL (l.take i) ++ ntsL (l.drop i) := by rw [← ntsL_append, List.take_append_drop]
  rw [this, List.length_append]; omega
theorem nts_child (x : S26) (i : Nat) (h : i < x.f2.length) : (nts x.f2[i]).length ≤ (nts x).length := by
  have h1 := ntsL_le x.f2 (i + 1)
  rw [ntsL_take x.f2 i h, List.length_append] at h1
  rw [nts_eq x]; simp only [List.length_append]; omega
theorem notes9 (n : Nat) : ∀ x : S26, (pre x).length ≤ n → Fin26 x → (nts x).length < 8796093022208 → Ev (fun k => galleyref9_Notes.f k x.f0 x.f1 x.f2 x.f3 x.f4 x.f5 x.f6) (nts x) := by
  induction n using Nat.strongRecOn with
  | _ n ih =>
  intro x hn hx hb
  have hm := hx.own.1
  have hb' := hb
  rw [nts_eq x] at hb'
  simp only [List.length_append] at hb'
  have loop : ∀ d i : Nat, x.f2.length - i = d → i ≤ x.f2.length → Ev (fun k => galleyref9_Notes.l0 k (x.f5 ++ ntsL (x.f2.take i)) (i : Int) x.f0 x.f1 x.f2 x.f3 x.f4 x.f5 x.f6) (nts x) := by
    intro d
    induction d with
    | zero =>
      intro i hd hi
      refine Ev.step (f := fun _ => some (x.f5 ++ ntsL (x.f2.take i) ++ x.f6)) (fun k => by simp only [galleyref9_Notes.l0]; rw [if_neg (by omega), if_pos (by rw [List.length_append]; have := ntsL_le x.f2 i; omega)]) ?_
      rw [show i = x.f2.length by omega, List.take_length, ← nts_eq]
      exact Ev.now _
    | succ d ihd =>
      intro i hd hi
      have hil : i < x.f2.length := by omega
      have hc := ntsL_le x.f2 (i + 1)
      rw [ntsL_take x.f2 i hil, List.length_append] at hc
      refine Ev.step (f := fun k => (galleyref9_Notes.f k x.f2[i].f0 x.f2[i].f1 x.f2[i].f2 x.f2[i].f3 x.f2[i].f4 x.f2[i].f5 x.f2[i].f6).bind fun t => if (x.f5 ++ ntsL (x.f2.take i)).length + t.length < 8796093022208 then galleyref9_Notes.l0 k (x.f5 ++ ntsL (x.f2.take i) ++ t) ((i + 1 : Nat) : Int) x.f0 x.f1 x.f2 x.f3 x.f4 x.f5 x.f6 else none)
        (fun k => by simp only [galleyref9_Notes.l0]; rw [if_pos (by omega), if_pos (by omega), rd26 _ _ hil, wrap_next hil hm]) ?_
      refine Ev.bind (ih (pre x.f2[i]).length (Nat.lt_of_lt_of_le (pre_lt x i hil) hn) x.f2[i] (Nat.le_refl _) (hx.child i hil) (Nat.lt_of_le_of_lt (nts_child x i hil) hb)) ?_
      refine Ev.congr (f := fun k => galleyref9_Notes.l0 k (x.f5 ++ ntsL (x.f2.take (i + 1))) ((i + 1 : Nat) : Int) x.f0 x.f1 x.f2 x.f3 x.f4 x.f5 x.f6) (fun k => by rw [if_pos (by rw [List.length_append]; omega), ntsL_take x.f2 i hil, List.append_assoc]) ?_
      exact ihd (i + 1) (by omega) (by omega)
  refine Ev.step (f := fun k => galleyref9_Notes.l0 k (x.f5 ++ ntsL (x.f2.take 0)) ((0 : Nat) : Int) x.f0 x.f1 x.f2 x.f3 x.f4 x.f5 x.f6) (fun k => by simp only [galleyref9_Notes.f, Option.bind_some]; rw [if_pos (by simp only [List.length_nil]; omega)]; simp [ntsL]) (loop x.f2.length 0 (by omega) (by omega))
theorem notesT (n : Nat) : ∀ x : S26, (pre x).length ≤ n → Fin26 x → (nts x).length < 8796093022208 → Ev (fun k => tree_Notes.f k x.f0 x.f1 x.f2 x.f3 x.f4 x.f5 x.f6) (nts x) := by
  induction n using Nat.strongRecOn with
  | _ n ih =>
  intro x hn hx hb
  have hm := hx.own.1
  have hb' := hb
  rw [nts_eq x] at hb'
  simp only [List.length_append] at hb'
  have loop : ∀ d i : Nat, x.f2.length - i = d → i ≤ x.f2.length → Ev (fun k => tree_Notes.l0 k (x.f5 ++ ntsL (x.f2.take i)) x.f2 (x.f2.length : Int) (i : Int) x.f0 x.f1 x.f2 x.f3 x.f4 x.f5 x.f6) (nts x) := by
    intro d
    induction d with
    | zero =>
      intro i hd hi
      refine Ev.step (f := fun _ => some (x.f5 ++ ntsL (x.f2.take i) ++ x.f6)) (fun k => by simp only [tree_Notes.l0]; rw [if_neg (by omega), if_pos (by rw [List.length_append]; have := ntsL_le x.f2 i; omega)]) ?_
      rw [show i = x.f2.length by omega, List.take_length, ← nts_eq]
      exact Ev.now _
    | succ d ihd =>
      intro i hd hi
      have hil : i < x.f2.length := by omega
      have hc := ntsL_le x.f2 (i + 1)
      rw [ntsL_take x.f2 i hil, List.length_append] at hc
      refine Ev.step (f := fun k => (tree_Notes.f k x.f2[i].f0 x.f2[i].f1 x.f2[i].f2 x.f2[i].f3 x.f2[i].f4 x.f2[i].f5 x.f2[i].f6).bind fun t => if (x.f5 ++ ntsL (x.f2.take i)).length + t.length < 8796093022208 then tree_Notes.l0 k (x.f5 ++ ntsL (x.f2.take i) ++ t) x.f2 (x.f2.length : Int) ((i + 1 : Nat) : Int) x.f0 x.f1 x.f2 x.f3 x.f4 x.f5 x.f6 else none)
        (fun k => by simp only [tree_Notes.l0]; rw [if_pos (by omega), if_pos (by omega), if_pos (by omega), rd26 _ _ hil, wrap_next hil hm]) ?_
      refine Ev.bind (ih (pre x.f2[i]).length (Nat.lt_of_lt_of_le (pre_lt x i hil) hn) x.f2[i] (Nat.le_refl _) (hx.child i hil) (Nat.lt_of_le_of_lt (nts_child x i hil) hb)) ?_
      refine Ev.congr (f := fun k => tree_Notes.l0 k (x.f5 ++ ntsL (x.f2.take (i + 1))) x.f2 (x.f2.length : Int) ((i + 1 : Nat) : Int) x.f0 x.f1 x.f2 x.f3 x.f4 x.f5 x.f6) (fun k => by rw [if_pos (by rw [List.length_append]; omega), ntsL_take x.f2 i hil, List.append_assoc]) ?_
      exact ihd (i + 1) (by omega) (by omega)
  refine Ev.step (f := fun k => tree_Notes.l0 k (x.f5 ++ ntsL (x.f2.take 0)) x.f2 (x.f2.length : Int) ((0 : Nat) : Int) x.f0 x.f1 x.f2 x.f3 x.f4 x.f5 x.f6) (fun k => by simp only [tree_Notes.f, slices_Clone_string_string.f]; rw [if_pos (by omega)]; simp [ntsL]) (loop x.f2.length 0 (by omega) (by omega))

/-! ### literals -/
theorem lits_cons (x : S26) (l : List S26) : lits (x :: l) = (if x.f0 = 1 then [x.f1] else []) ++ lits l := by
  by_cases h : x.f0 = 1 <;> simp [lits, List.filter_cons, h]
theorem lits_preL_le (l : List S26) (i : Nat) : (lits (preL (l.take i))).length ≤ (lits (preL l)).length := by
  have : preL l = preL (l.take i) ++ preL (l.drop i) := by rw [← preL_append, List.take_append_drop]
  rw [this, lits_append, List.length_append]; omega
theorem lits9 (n : Nat) : ∀ x : S26, (pre x).length ≤ n → Fin26 x → (lits (pre x)).length < 8796093022208 → Ev (fun k => galleyref9_Lits.f k x.f0 x.f1 x.f2 x.f3 x.f4 x.f5 x.f6) (lits (pre x)) := by
  induction n using Nat.strongRecOn with
  | _ n ih =>
  intro x hn hx hb
  have hm := hx.own.1
  have hb' := hb
  rw [pre_eq x, lits_cons, List.length_append] at hb'
  have loop : ∀ (a : List ByteArray), a.length + (lits (preL x.f2)).length < 8796093022208 → ∀ d i : Nat, x.f2.length - i = d → i ≤ x.f2.length → Ev (fun k => galleyref9_Lits.l0 k (a ++ lits (preL (x.f2.take i))) (i : Int) x.f0 x.f1 x.f2 x.f3 x.f4 x.f5 x.f6) (a ++ lits (preL x.f2)) := by
    intro a ha d
    induction d with
    | zero =>
      intro i hd hi
      refine Ev.step (f := fun _ => some (a ++ lits (preL (x.f2.take i)))) (fun k => by simp only [galleyref9_Lits.l0]; rw [if_neg (by omega)]) ?_
      rw [show i = x.f2.length by omega, List.take_length]
      exact Ev.now _
    | succ d ihd =>
      intro i hd hi
      have hil : i < x.f2.length := by omega
      have hc := lits_preL_le x.f2 (i + 1)
      rw [preL_take x.f2 i hil, lits_append, List.length_append] at hc
      refine Ev.step (f := fun k => (galleyref9_Lits.f k x.f2[i].f0 x.f2[i].f1 x.f2[i].f2 x.f2[i].f3 x.f2[i].f4 x.f2[i].f5 x.f2[i].f6).bind fun t => if (a ++ lits (preL (x.f2.take i))).length + t.length < 8796093022208 then galleyref9_Lits.l0 k (a ++ lits (preL (x.f2.take i)) ++ t) ((i + 1 : Nat) : Int) x.f0 x.f1 x.f2 x.f3 x.f4 x.f5 x.f6 else none)
        (fun k => by simp only [galleyref9_Lits.l0]; rw [if_pos (by omega), if_pos (by omega), rd26 _ _ hil, wrap_next hil hm]) ?_
      refine Ev.bind (ih (pre x.f2[i]).length (Nat.lt_of_lt_of_le (pre_lt x i hil) hn) x.f2[i] (Nat.le_refl _) (hx.child i hil) (by omega)) ?_
      refine Ev.congr (f := fun k => galleyref9_Lits.l0 k (a ++ lits (preL (x.f2.take (i + 1)))) ((i + 1 : Nat) : Int) x.f0 x.f1 x.f2 x.f3 x.f4 x.f5 x.f6) (fun k => by rw [if_pos (by rw [List.length_append]; omega), preL_take x.f2 i hil, lits_append, List.append_assoc]) ?_
      exact ihd (i + 1) (by omega) (by omega)
  have jn : ∀ a : List ByteArray, a = (if x.f0 = 1 then [x.f1] else []) → Ev (fun k => galleyref9_Lits.j0 k a x.f0 x.f1 x.f2 x.f3 x.f4 x.f5 x.f6) (lits (pre x)) := by
    intro a ha
    rw [pre_eq x, lits_cons, ← ha]
    rw [← ha] at hb'
    exact Ev.step (f := fun k => galleyref9_Lits.l0 k (a ++ lits (preL (x.f2.take 0))) ((0 : Nat) : Int) x.f0 x.f1 x.f2 x.f3 x.f4 x.f5 x.f6) (fun k => by simp only [galleyref9_Lits.j0]; simp [preL, lits]) (loop a (by omega) x.f2.length 0 (by omega) (by omega))
  by_cases h : x.f0 = 1
  · exact Ev.step (fun k => by simp only [galleyref9_Lits.f]; rw [if_pos h, if_pos (by simp)]) (jn ([] ++ [x.f1]) (by rw [if_pos h]; rfl))
  · exact Ev.step (fun k => by simp only [galleyref9_Lits.f]; rw [if_neg h]) (jn [] (by rw [if_neg h]))

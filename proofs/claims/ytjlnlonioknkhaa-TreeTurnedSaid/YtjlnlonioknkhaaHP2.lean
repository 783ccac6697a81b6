/- Plain: what is few, and what the answers over trees come to. -/
import Derived.Test.YtjlnlonioknkhaaHEv
import Derived.Test.YtjlnlonioknkhaaHP1
namespace Go.Proofs.Ytjlnlonioknkhaa.PA
open Go.RowKit Go.Proofs.YtjlnlonioknkhaaW.PrintWords Go.Proofs.YtjlnlonioknkhaaW.PrintLast Go.Proofs.YtjlnlonioknkhaaW.PrintMore
set_option linter.unusedVariables false
set_option linter.unusedSimpArgs false

/-! ### few -/
mutual
def fewV : S26 → Nat → Nat
  | ⟨_, _, _, _, _, _, _⟩, 0 => 1000
  | ⟨_, b, l, _, _, e, f⟩, d + 1 => if 200 < b.size then 1000 else if 40 < e.length then 1000 else if 40 < f.length then 1000 else if 400 < l.length then 1000 else fewL l d 1
def fewL : List S26 → Nat → Nat → Nat
  | [], _, k => k
  | x :: r, d, k => if k < 1000 then fewL r d (k + fewV x d) else k
end
theorem fewV_zero (x : S26) : fewV x 0 = 1000 := by cases x; rfl
theorem fewV_succ (x : S26) (d : Nat) : fewV x (d + 1) = if 200 < x.f1.size then 1000 else if 40 < x.f5.length then 1000 else if 40 < x.f6.length then 1000 else if 400 < x.f2.length then 1000 else fewL x.f2 d 1 := by cases x; rfl
mutual
theorem fewV_le : ∀ (x : S26) (d : Nat), fewV x d ≤ 1000 * (d + 1)
  | ⟨_, _, _, _, _, _, _⟩, 0 => by simp [fewV]
  | ⟨_, b, l, _, _, e, f⟩, d + 1 => by
    unfold fewV
    repeat' split
    all_goals first | omega | (have := fewL_le l d 1; omega)
theorem fewL_le : ∀ (l : List S26) (d k : Nat), fewL l d k ≤ max k (1000 + 1000 * (d + 1))
  | [], d, k => by simp [fewL]; omega
  | x :: r, d, k => by
    unfold fewL
    split
    · have h1 := fewV_le x d
      have h2 := fewL_le r d (k + fewV x d)
      omega
    · omega
end
mutual
/-- What is few has so many nodes, all of them small. -/
theorem few_small : ∀ (x : S26) (d : Nat), fewV x d ≤ 400 → fewV x d = (pre x).length ∧ ∀ y ∈ pre x, y.f2.length ≤ 400 ∧ y.f5.length ≤ 40 ∧ y.f6.length ≤ 40
  | ⟨_, _, _, _, _, _, _⟩, 0, h => by simp [fewV] at h
  | ⟨a, b, l, c, c', e, f⟩, d + 1, h => by
    unfold fewV at h ⊢
    split at h
    · omega
    split at h
    · omega
    split at h
    · omega
    split at h
    · omega
    rename_i h1 h2 h3 h4
    rw [if_neg h1, if_neg h2, if_neg h3, if_neg h4]
    obtain ⟨h5, h6⟩ := fewL_small l d 1 h
    refine ⟨by rw [h5]; simp [pre]; omega, fun y hy => ?_⟩
    rw [pre_eq] at hy
    rcases List.mem_cons.1 hy with rfl | hy
    · exact (show l.length ≤ 400 ∧ e.length ≤ 40 ∧ f.length ≤ 40 by omega)
    · exact h6 y hy
theorem fewL_small : ∀ (l : List S26) (d k : Nat), fewL l d k ≤ 400 → fewL l d k = k + (preL l).length ∧ ∀ y ∈ preL l, y.f2.length ≤ 400 ∧ y.f5.length ≤ 40 ∧ y.f6.length ≤ 40
  | [], d, k, h => by simp [fewL, preL]
  | x :: r, d, k, h => by
    unfold fewL at h ⊢
    split at h
    · rename_i hk
      rw [if_pos hk]
      obtain ⟨h1, h2⟩ := fewL_small r d (k + fewV x d) h
      obtain ⟨h3, h4⟩ := few_small x d (by omega)
      refine ⟨by rw [h1, h3]; simp [preL]; omega, fun y hy => ?_⟩
      simp only [preL, List.mem_append] at hy
      rcases hy with hy | hy
      · exact h4 y hy
      · exact h2 y hy
    · omega
end
theorem few10 (n : Nat) : ∀ (x : S26) (d : Nat), (pre x).length ≤ n → d ≤ 40 → Ev (fun k => galleylaw10_few.f k x.f0 x.f1 x.f2 x.f3 x.f4 x.f5 x.f6 (d : Int)) (fewV x d : Int) := by
  induction n using Nat.strongRecOn with
  | _ n ih =>
  intro x d hn hd
  have jt : Ev (fun k => galleylaw10_few.j0 k (d : Int) true x.f0 x.f1 x.f2 x.f3 x.f4 x.f5 x.f6) (1000 : Int) := Ev.step (f := fun _ => some 1000) (fun k => by simp only [galleylaw10_few.j0, if_true]) (Ev.now _)
  cases d with
  | zero =>
    rw [fewV_zero]
    exact Ev.step (fun k => by simp only [galleylaw10_few.f]; rw [if_pos (by omega)]) jt
  | succ d =>
    rw [fewV_succ]
    have hne : ¬ ((d + 1 : Nat) : Int) = 0 := by omega
    by_cases h1 : 200 < x.f1.size
    · rw [if_pos h1]
      exact Ev.step (fun k => by simp only [galleylaw10_few.f]; rw [if_neg hne, if_pos (by omega)]) jt
    rw [if_neg h1]
    by_cases h2 : 40 < x.f5.length
    · rw [if_pos h2]
      exact Ev.step (fun k => by simp only [galleylaw10_few.f]; rw [if_neg hne, if_neg (by omega), if_pos (by omega)]) jt
    rw [if_neg h2]
    by_cases h3 : 40 < x.f6.length
    · rw [if_pos h3]
      exact Ev.step (fun k => by simp only [galleylaw10_few.f]; rw [if_neg hne, if_neg (by omega), if_neg (by omega), if_pos (by omega)]) jt
    rw [if_neg h3]
    refine Ev.step (f := fun k => galleylaw10_few.j0 k ((d + 1 : Nat) : Int) (decide ((x.f2.length : Int) > 400)) x.f0 x.f1 x.f2 x.f3 x.f4 x.f5 x.f6) (fun k => by simp only [galleylaw10_few.f]; rw [if_neg hne, if_neg (by omega), if_neg (by omega), if_neg (by omega)]) ?_
    by_cases h4 : 400 < x.f2.length
    · rw [if_pos h4, decide_eq_true (show (x.f2.length : Int) > 400 by omega)]
      exact jt
    rw [if_neg h4, decide_eq_false (show ¬ (x.f2.length : Int) > 400 by omega)]
    have loop : ∀ m i : Nat, ∀ a : Nat, a ≤ 1000 * 42 → x.f2.length - i = m → i ≤ x.f2.length → Ev (fun k => galleylaw10_few.l0 k ((d + 1 : Nat) : Int) (a : Int) (i : Int) x.f0 x.f1 x.f2 x.f3 x.f4 x.f5 x.f6) (fewL (x.f2.drop i) d a : Int) := by
      intro m
      induction m with
      | zero =>
        intro i a ha hm hi
        refine Ev.step (f := fun _ => some (a : Int)) (fun k => by simp only [galleylaw10_few.l0]; rw [if_neg (by omega)]) ?_
        rw [List.drop_eq_nil_of_le (by omega)]
        exact Ev.now _
      | succ m ihm =>
        intro i a ha hm hi
        have hil : i < x.f2.length := by omega
        rw [List.drop_eq_getElem_cons hil]
        unfold fewL
        by_cases hk : a < 1000
        · rw [if_pos hk]
          have hv := fewV_le x.f2[i] d
          refine Ev.step (f := fun k => (galleylaw10_few.f k x.f2[i].f0 x.f2[i].f1 x.f2[i].f2 x.f2[i].f3 x.f2[i].f4 x.f2[i].f5 x.f2[i].f6 (d : Int)).bind fun t => galleylaw10_few.l0 k ((d + 1 : Nat) : Int) (wrap64 ((a : Int) + t)) ((i + 1 : Nat) : Int) x.f0 x.f1 x.f2 x.f3 x.f4 x.f5 x.f6)
            (fun k => by simp only [galleylaw10_few.l0]; rw [if_pos (by omega), if_pos (by omega), if_pos (by omega), rd26 _ _ hil, wrap_next hil (by omega), show wrap64 (((d + 1 : Nat) : Int) - 1) = (d : Int) by unfold wrap64; omega]) ?_
          refine Ev.bind (ih (pre x.f2[i]).length (Nat.lt_of_lt_of_le (pre_lt x i hil) hn) x.f2[i] d (Nat.le_refl _) (by omega)) ?_
          rw [show wrap64 ((a : Int) + (fewV x.f2[i] d : Int)) = ((a + fewV x.f2[i] d : Nat) : Int) by unfold wrap64; omega]
          exact ihm (i + 1) (a + fewV x.f2[i] d) (by omega) (by omega) (by omega)
        · rw [if_neg hk]
          exact Ev.step (f := fun _ => some (a : Int)) (fun k => by simp only [galleylaw10_few.l0]; rw [if_pos (by omega), if_neg (by omega)]) (Ev.now _)
    exact Ev.step (f := fun k => galleylaw10_few.l0 k ((d + 1 : Nat) : Int) ((1 : Nat) : Int) ((0 : Nat) : Int) x.f0 x.f1 x.f2 x.f3 x.f4 x.f5 x.f6) (fun k => by simp only [galleylaw10_few.j0]; rw [if_neg (by decide)]; rfl) (loop x.f2.length 0 1 (by omega) (by omega) (by omega))
theorem Few10 (x : S26) : Ev (fun k => galleylaw10_Few.f k x.f0 x.f1 x.f2 x.f3 x.f4 x.f5 x.f6) (decide (fewV x 40 ≤ 400)) := by
  refine Ev.bind (few10 _ x 40 (Nat.le_refl _) (Nat.le_refl _)) ?_
  have : decide ((fewV x 40 : Int) ≤ 400) = decide (fewV x 40 ≤ 400) := by
    by_cases h : fewV x 40 ≤ 400
    · rw [decide_eq_true h, decide_eq_true (by omega)]
    · rw [decide_eq_false h, decide_eq_false (by omega)]
  rw [← this]
  exact Ev.now _
theorem few_fin {x : S26} (h : fewV x 40 ≤ 400) : Fin26 x := fun y hy => by
  obtain ⟨h1, h2, h3⟩ := (few_small x 40 h).2 y hy
  omega
mutual
theorem nts_le : ∀ (x : S26), (∀ y ∈ pre x, y.f5.length ≤ 40 ∧ y.f6.length ≤ 40) → (nts x).length ≤ 80 * (pre x).length
  | ⟨a, b, l, c, c', e, f⟩, h => by
    have h0 := h ⟨a, b, l, c, c', e, f⟩ (mem_self _)
    have h1 := ntsL_len l (fun y hy => h y (by rw [pre_eq]; exact List.mem_cons_of_mem _ hy))
    simp only [nts, pre, List.length_append, List.length_cons]
    have h2 : e.length ≤ 40 ∧ f.length ≤ 40 := h0
    omega
theorem ntsL_len : ∀ (l : List S26), (∀ y ∈ preL l, y.f5.length ≤ 40 ∧ y.f6.length ≤ 40) → (ntsL l).length ≤ 80 * (preL l).length
  | [], _ => by simp [ntsL]
  | x :: r, h => by
    have h1 := nts_le x (fun y hy => h y (by simp [preL, hy]))
    have h2 := ntsL_len r (fun y hy => h y (by simp [preL, hy]))
    simp only [ntsL, preL, List.length_append]
    omega
end
theorem lits_le (l : List S26) : (lits l).length ≤ l.length := by
  unfold lits
  rw [List.length_map]
  exact List.length_filter_le _ _


theorem eta26 (x : S26) : (⟨x.f0, x.f1, x.f2, x.f3, x.f4, x.f5, x.f6⟩ : S26) = x := by cases x; rfl
theorem sameT (x y : S26) : tree_Same.f x.f0 x.f1 x.f2 x.f3 x.f4 x.f5 x.f6 y.f0 y.f1 y.f2 y.f3 y.f4 y.f5 y.f6 = some (likeB true x y) := by
  show some (likeB true ⟨x.f0, x.f1, x.f2, x.f3, x.f4, x.f5, x.f6⟩ ⟨y.f0, y.f1, y.f2, y.f3, y.f4, y.f5, y.f6⟩) = _
  rw [eta26, eta26]
theorem likeT (x y : S26) : tree_Like.f x.f0 x.f1 x.f2 x.f3 x.f4 x.f5 x.f6 y.f0 y.f1 y.f2 y.f3 y.f4 y.f5 y.f6 = some (likeB false x y) := by
  show some (likeB false ⟨x.f0, x.f1, x.f2, x.f3, x.f4, x.f5, x.f6⟩ ⟨y.f0, y.f1, y.f2, y.f3, y.f4, y.f5, y.f6⟩) = _
  rw [eta26, eta26]
theorem countT (x : S26) : tree_Count.f x.f0 x.f1 x.f2 x.f3 x.f4 x.f5 x.f6 = some (wrap64 (pre x).length) := by
  show some (wrap64 (pre ⟨x.f0, x.f1, x.f2, x.f3, x.f4, x.f5, x.f6⟩).length) = _
  rw [eta26]
theorem forcedT (x : S26) : tree_Forced.f x.f0 x.f1 x.f2 x.f3 x.f4 x.f5 x.f6 = some ((pre x).any forced1) := by
  show some ((pre ⟨x.f0, x.f1, x.f2, x.f3, x.f4, x.f5, x.f6⟩).any forced1) = _
  rw [eta26]
theorem litsT (x : S26) (h : (lits (pre x)).length ≤ 8796093022208) : tree_Lits.f x.f0 x.f1 x.f2 x.f3 x.f4 x.f5 x.f6 = some (lits (pre x)) := by
  unfold tree_Lits.f
  rw [eta26, if_pos h]
end Go.Proofs.Ytjlnlonioknkhaa.PA

/- Plain: what the document's answers for documents come to; DocAsks answers true. -/
import Derived.Test.YtjlnlonioknkhaaHEv
import Derived.Test.YtjlnlonioknkhaaHA7
import Derived.Test.YtjlnlonioknkhaaPAx25
import Derived.Test.YtjlnlonioknkhaaPAx21
import Derived.Test.YtjlnlonioknkhaaPAx24
import Derived.Test.YtjlnlonioknkhaaPAx23
import Derived.Test.YtjlnlonioknkhaaPAx20
namespace Go.Proofs.Ytjlnlonioknkhaa.PA
open Go.RowKit Go.Proofs.YtjlnlonioknkhaaW.PrintWords Go.Proofs.YtjlnlonioknkhaaW.PrintLast Go.Proofs.YtjlnlonioknkhaaW.PrintMore
set_option linter.unusedVariables false
set_option linter.unusedSimpArgs false

/-! ### sizes -/
mutual
def finD : S40 → Prop
  | ⟨_, _, s, l⟩ => s.size ≤ 100 ∧ l.length ≤ 500 ∧ finDL l
def finDL : List S40 → Prop
  | [] => True
  | x :: r => finD x ∧ finDL r
end
theorem finD_eq (x : S40) : finD x ↔ x.f2.size ≤ 100 ∧ x.f3.length ≤ 500 ∧ finDL x.f3 := by cases x; rfl
theorem finDL_get : ∀ (l : List S40), finDL l → ∀ i (h : i < l.length), finD l[i]
  | [], _, i, h => by simp at h
  | x :: r, hl, 0, h => hl.1
  | x :: r, hl, i + 1, h => finDL_get r hl.2 i (by simpa using h)
theorem finD_child {x : S40} (h : finD x) (i : Nat) (hi : i < x.f3.length) : finD x.f3[i] := finDL_get _ ((finD_eq x).1 h).2.2 i hi
theorem dep_eq (x : S40) : dep x = 1 + depL x.f3 := by cases x; rfl
theorem dep_get : ∀ (l : List S40) (i : Nat) (h : i < l.length), dep l[i] ≤ depL l
  | [], i, h => by simp at h
  | x :: r, 0, h => by simp only [depL, List.getElem_cons_zero]; omega
  | x :: r, i + 1, h => by
    have := dep_get r i (by simpa using h)
    simp only [depL, List.getElem_cons_succ]; omega
theorem cntL_drop (l : List S40) (i : Nat) (h : i < l.length) : cntL (l.drop i) = cnt l[i] + cntL (l.drop (i + 1)) := by rw [List.drop_eq_getElem_cons h]; rfl
theorem depL_drop (l : List S40) (i : Nat) (h : i < l.length) : depL (l.drop i) = max (dep l[i]) (depL (l.drop (i + 1))) := by rw [List.drop_eq_getElem_cons h]; rfl
theorem cnt_pos (x : S40) : 1 ≤ cnt x := by rw [cnt_eq]; omega
theorem depL_drop_le (l : List S40) (i : Nat) : depL (l.drop i) ≤ depL l := by
  induction l generalizing i with
  | nil => simp
  | cons x r ih =>
    cases i with
    | zero => simp
    | succ i => have := ih i; simp only [List.drop_succ_cons, depL]; omega

/-! ### few -/
mutual
def fewD : S40 → Nat → Nat
  | ⟨_, _, _, _⟩, 0 => 1000
  | ⟨_, _, s, l⟩, d + 1 => if 100 < s.size then 1000 else if 500 < l.length then 1000 else fewDL l d 1
def fewDL : List S40 → Nat → Nat → Nat
  | [], _, k => k
  | x :: r, d, k => if k < 1000 then fewDL r d (k + fewD x d) else k
end
theorem fewD_zero (x : S40) : fewD x 0 = 1000 := by cases x; rfl
theorem fewD_succ (x : S40) (d : Nat) : fewD x (d + 1) = if 100 < x.f2.size then 1000 else if 500 < x.f3.length then 1000 else fewDL x.f3 d 1 := by cases x; rfl
mutual
theorem fewD_le : ∀ (x : S40) (d : Nat), fewD x d ≤ 1000 * (d + 1)
  | ⟨_, _, _, _⟩, 0 => by simp [fewD]
  | ⟨_, _, s, l⟩, d + 1 => by
    unfold fewD
    repeat' split
    all_goals first | omega | (have := fewDL_le l d 1; omega)
theorem fewDL_le : ∀ (l : List S40) (d k : Nat), fewDL l d k ≤ max k (1000 + 1000 * (d + 1))
  | [], d, k => by simp [fewDL]; omega
  | x :: r, d, k => by
    unfold fewDL
    split
    · have h1 := fewD_le x d
      have h2 := fewDL_le r d (k + fewD x d)
      omega
    · omega
end
mutual
theorem fewD_small : ∀ (x : S40) (d : Nat), fewD x d ≤ 500 → fewD x d = cnt x ∧ dep x ≤ d ∧ finD x
  | ⟨_, _, _, _⟩, 0, h => by simp [fewD] at h
  | ⟨a, b, s, l⟩, d + 1, h => by
    unfold fewD at h ⊢
    split at h
    · omega
    split at h
    · omega
    rename_i h1 h2
    rw [if_neg h1, if_neg h2]
    obtain ⟨h5, h6, h7⟩ := fewDL_small l d 1 h
    refine ⟨by rw [h5]; rfl, by simp only [dep]; omega, ?_⟩
    exact ⟨by omega, by omega, h7⟩
theorem fewDL_small : ∀ (l : List S40) (d k : Nat), fewDL l d k ≤ 500 → fewDL l d k = k + cntL l ∧ depL l ≤ d ∧ finDL l
  | [], d, k, h => by simp [fewDL, cntL, depL, finDL]
  | x :: r, d, k, h => by
    unfold fewDL at h ⊢
    split at h
    · rename_i hk
      rw [if_pos hk]
      obtain ⟨h1, h2, h3⟩ := fewDL_small r d (k + fewD x d) h
      obtain ⟨h4, h5, h6⟩ := fewD_small x d (by omega)
      exact ⟨by rw [h1, h4]; simp only [cntL]; omega, by simp only [depL]; omega, h6, h3⟩
    · omega
end
theorem few15 (n : Nat) : ∀ (x : S40) (d : Nat), cnt x ≤ n → d ≤ 60 → Ev (fun k => galleylaw15_few.f k x.f0 x.f1 x.f2 x.f3 (d : Int)) (fewD x d : Int) := by
  induction n using Nat.strongRecOn with
  | _ n ih =>
  intro x d hn hd
  have jt : Ev (fun k => galleylaw15_few.j0 k (d : Int) true x.f0 x.f1 x.f2 x.f3) (1000 : Int) := Ev.step (f := fun _ => some 1000) (fun k => by simp only [galleylaw15_few.j0, if_true]) (Ev.now _)
  cases d with
  | zero =>
    rw [fewD_zero]
    exact Ev.step (fun k => by simp only [galleylaw15_few.f]; rw [if_pos (by omega)]) jt
  | succ d =>
    rw [fewD_succ]
    have hne : ¬ ((d + 1 : Nat) : Int) = 0 := by omega
    by_cases h1 : 100 < x.f2.size
    · rw [if_pos h1]
      exact Ev.step (fun k => by simp only [galleylaw15_few.f]; rw [if_neg hne, if_pos (by omega)]) jt
    rw [if_neg h1]
    refine Ev.step (f := fun k => galleylaw15_few.j0 k ((d + 1 : Nat) : Int) (decide ((x.f3.length : Int) > 500)) x.f0 x.f1 x.f2 x.f3) (fun k => by simp only [galleylaw15_few.f]; rw [if_neg hne, if_neg (by omega)]) ?_
    by_cases h4 : 500 < x.f3.length
    · rw [if_pos h4, decide_eq_true (show (x.f3.length : Int) > 500 by omega)]
      exact jt
    rw [if_neg h4, decide_eq_false (show ¬ (x.f3.length : Int) > 500 by omega)]
    have loop : ∀ m i : Nat, ∀ a : Nat, a ≤ 1000 * 62 → x.f3.length - i = m → i ≤ x.f3.length → Ev (fun k => galleylaw15_few.l0 k ((d + 1 : Nat) : Int) (a : Int) (i : Int) x.f0 x.f1 x.f2 x.f3) (fewDL (x.f3.drop i) d a : Int) := by
      intro m
      induction m with
      | zero =>
        intro i a ha hm hi
        refine Ev.step (f := fun _ => some (a : Int)) (fun k => by simp only [galleylaw15_few.l0]; rw [if_neg (by omega)]) ?_
        rw [List.drop_eq_nil_of_le (by omega)]
        exact Ev.now _
      | succ m ihm =>
        intro i a ha hm hi
        have hil : i < x.f3.length := by omega
        rw [List.drop_eq_getElem_cons hil]
        unfold fewDL
        by_cases hk : a < 1000
        · rw [if_pos hk]
          have hv := fewD_le x.f3[i] d
          refine Ev.step (f := fun k => (galleylaw15_few.f k x.f3[i].f0 x.f3[i].f1 x.f3[i].f2 x.f3[i].f3 (d : Int)).bind fun t => galleylaw15_few.l0 k ((d + 1 : Nat) : Int) (wrap64 ((a : Int) + t)) ((i + 1 : Nat) : Int) x.f0 x.f1 x.f2 x.f3)
            (fun k => by simp only [galleylaw15_few.l0]; rw [if_pos (by omega), if_pos (by omega), if_pos (by omega), rd40 _ _ hil, wrap_next hil (by omega), show wrap64 (((d + 1 : Nat) : Int) - 1) = (d : Int) by unfold wrap64; omega]) ?_
          refine Ev.bind (ih (cnt x.f3[i]) (Nat.lt_of_lt_of_le (cnt_lt x i hil) hn) x.f3[i] d (Nat.le_refl _) (by omega)) ?_
          rw [show wrap64 ((a : Int) + (fewD x.f3[i] d : Int)) = ((a + fewD x.f3[i] d : Nat) : Int) by unfold wrap64; omega]
          exact ihm (i + 1) (a + fewD x.f3[i] d) (by omega) (by omega) (by omega)
        · rw [if_neg hk]
          exact Ev.step (f := fun _ => some (a : Int)) (fun k => by simp only [galleylaw15_few.l0]; rw [if_pos (by omega), if_neg (by omega)]) (Ev.now _)
    exact Ev.step (f := fun k => galleylaw15_few.l0 k ((d + 1 : Nat) : Int) ((1 : Nat) : Int) ((0 : Nat) : Int) x.f0 x.f1 x.f2 x.f3) (fun k => by simp only [galleylaw15_few.j0]; rw [if_neg (by decide)]; rfl) (loop x.f3.length 0 1 (by omega) (by omega) (by omega))
theorem Few15 (x : S40) : Ev (fun k => galleylaw15_Few.f k x.f0 x.f1 x.f2 x.f3) (decide (fewD x 60 ≤ 500)) := by
  refine Ev.bind (few15 _ x 60 (Nat.le_refl _) (Nat.le_refl _)) ?_
  have : decide ((fewD x 60 : Int) ≤ 500) = decide (fewD x 60 ≤ 500) := by
    by_cases h : fewD x 60 ≤ 500
    · rw [decide_eq_true h, decide_eq_true (by omega)]
    · rw [decide_eq_false h, decide_eq_false (by omega)]
  rw [← this]
  exact Ev.now _

/-! ### forced -/
mutual
def frcB : S40 → Bool
  | ⟨a, b, _, l⟩ => if a = 4 then true else if a = 7 ∧ b = 1 then true else frcL l
def frcL : List S40 → Bool
  | [] => false
  | x :: r => frcB x || frcL r
end
theorem frcB_eq (x : S40) : frcB x = if x.f0 = 4 then true else if x.f0 = 7 ∧ x.f1 = 1 then true else frcL x.f3 := by cases x; rfl
theorem frcL_drop (l : List S40) (i : Nat) (h : i < l.length) : frcL (l.drop i) = (frcB l[i] || frcL (l.drop (i + 1))) := by rw [List.drop_eq_getElem_cons h]; rfl
theorem frc15 (n : Nat) : ∀ x : S40, cnt x ≤ n → finD x → Ev (fun k => doc_Forced.f k x.f0 x.f1 x.f2 x.f3) (frcB x) := by
  induction n using Nat.strongRecOn with
  | _ n ih =>
  intro x hn hx
  obtain ⟨_, hm, _⟩ := (finD_eq x).1 hx
  have loop : ∀ d i : Nat, x.f3.length - i = d → i ≤ x.f3.length → Ev (fun k => doc_Forced.l0 k x.f3 (x.f3.length : Int) (i : Int)) (frcL (x.f3.drop i)) := by
    intro d
    induction d with
    | zero =>
      intro i hd hi
      refine Ev.step (f := fun _ => some false) (fun k => by simp only [doc_Forced.l0]; rw [if_neg (by omega)]) ?_
      rw [List.drop_eq_nil_of_le (by omega)]
      exact Ev.now _
    | succ d ihd =>
      intro i hd hi
      have hil : i < x.f3.length := by omega
      refine Ev.step (f := fun k => (doc_Forced.f k x.f3[i].f0 x.f3[i].f1 x.f3[i].f2 x.f3[i].f3).bind fun t => if t = true then some true else doc_Forced.l0 k x.f3 (x.f3.length : Int) ((i + 1 : Nat) : Int))
        (fun k => by simp only [doc_Forced.l0]; rw [if_pos (by omega), if_pos (by omega), if_pos (by omega), rd40 _ _ hil, wrap_next hil (by omega)]) ?_
      refine Ev.bind (ih (cnt x.f3[i]) (Nat.lt_of_lt_of_le (cnt_lt x i hil) hn) x.f3[i] (Nat.le_refl _) (finD_child hx i hil)) ?_
      rw [frcL_drop x.f3 i hil]
      cases frcB x.f3[i]
      · exact ihd (i + 1) (by omega) (by omega)
      · exact Ev.now _
  have jt : Ev (fun k => doc_Forced.j0 k true x.f0 x.f1 x.f2 x.f3) true := Ev.step (f := fun _ => some true) (fun k => by simp only [doc_Forced.j0, if_true]) (Ev.now _)
  have jf : Ev (fun k => doc_Forced.j0 k false x.f0 x.f1 x.f2 x.f3) (frcL x.f3) := Ev.step (f := fun k => doc_Forced.l0 k x.f3 (x.f3.length : Int) ((0 : Nat) : Int)) (fun k => by simp only [doc_Forced.j0]; rw [if_neg (by decide)]; rfl) (loop x.f3.length 0 (by omega) (by omega))
  rw [frcB_eq]
  by_cases c0 : x.f0 = 4
  · rw [if_pos c0]; exact Ev.step (fun k => by simp only [doc_Forced.f]; rw [if_pos c0]) jt
  rw [if_neg c0]
  by_cases c1 : x.f0 = 7
  · refine Ev.step (f := fun k => doc_Forced.j0 k (x.f1 == 1) x.f0 x.f1 x.f2 x.f3) (fun k => by simp only [doc_Forced.f]; rw [if_neg c0, if_pos c1]) ?_
    by_cases c2 : x.f1 = 1
    · rw [if_pos ⟨c1, c2⟩, beq_iff_eq.mpr c2]; exact jt
    · rw [if_neg (fun h => c2 h.2), beq_eq_false_iff_ne.mpr c2]; exact jf
  · rw [if_neg (fun h => c1 h.1)]
    exact Ev.step (fun k => by simp only [doc_Forced.f]; rw [if_neg c0, if_neg c1]) jf
theorem frcR (n : Nat) : ∀ x : S40, cnt x ≤ n → finD x → Ev (fun k => galleyref15_Forced.f k x.f0 x.f1 x.f2 x.f3) (frcB x) := by
  induction n using Nat.strongRecOn with
  | _ n ih =>
  intro x hn hx
  obtain ⟨_, hm, _⟩ := (finD_eq x).1 hx
  have loop : ∀ d i : Nat, x.f3.length - i = d → i ≤ x.f3.length → Ev (fun k => galleyref15_Forced.l0 k (i : Int) x.f0 x.f1 x.f2 x.f3) (frcL (x.f3.drop i)) := by
    intro d
    induction d with
    | zero =>
      intro i hd hi
      refine Ev.step (f := fun _ => some false) (fun k => by simp only [galleyref15_Forced.l0]; rw [if_neg (by omega)]) ?_
      rw [List.drop_eq_nil_of_le (by omega)]
      exact Ev.now _
    | succ d ihd =>
      intro i hd hi
      have hil : i < x.f3.length := by omega
      refine Ev.step (f := fun k => (galleyref15_Forced.f k x.f3[i].f0 x.f3[i].f1 x.f3[i].f2 x.f3[i].f3).bind fun t => if t = true then some true else galleyref15_Forced.l0 k ((i + 1 : Nat) : Int) x.f0 x.f1 x.f2 x.f3)
        (fun k => by simp only [galleyref15_Forced.l0]; rw [if_pos (by omega), if_pos (by omega), rd40 _ _ hil, wrap_next hil (by omega)]) ?_
      refine Ev.bind (ih (cnt x.f3[i]) (Nat.lt_of_lt_of_le (cnt_lt x i hil) hn) x.f3[i] (Nat.le_refl _) (finD_child hx i hil)) ?_
      rw [frcL_drop x.f3 i hil]
      cases frcB x.f3[i]
      · exact ihd (i + 1) (by omega) (by omega)
      · exact Ev.now _
  have jt : Ev (fun k => galleyref15_Forced.j0 k true x.f0 x.f1 x.f2 x.f3) true := Ev.step (f := fun _ => some true) (fun k => by simp only [galleyref15_Forced.j0, if_true]) (Ev.now _)
  have jf : Ev (fun k => galleyref15_Forced.j0 k false x.f0 x.f1 x.f2 x.f3) (frcL x.f3) := Ev.step (f := fun k => galleyref15_Forced.l0 k ((0 : Nat) : Int) x.f0 x.f1 x.f2 x.f3) (fun k => by simp only [galleyref15_Forced.j0]; rw [if_neg (by decide)]; rfl) (loop x.f3.length 0 (by omega) (by omega))
  rw [frcB_eq]
  by_cases c0 : x.f0 = 4
  · rw [if_pos c0]; exact Ev.step (fun k => by simp only [galleyref15_Forced.f]; rw [if_pos c0]) jt
  rw [if_neg c0]
  by_cases c1 : x.f0 = 7
  · refine Ev.step (f := fun k => galleyref15_Forced.j0 k (x.f1 == 1) x.f0 x.f1 x.f2 x.f3) (fun k => by simp only [galleyref15_Forced.f]; rw [if_neg c0, if_pos c1]) ?_
    by_cases c2 : x.f1 = 1
    · rw [if_pos ⟨c1, c2⟩, beq_iff_eq.mpr c2]; exact jt
    · rw [if_neg (fun h => c2 h.2), beq_eq_false_iff_ne.mpr c2]; exact jf
  · rw [if_neg (fun h => c1 h.1)]
    exact Ev.step (fun k => by simp only [galleyref15_Forced.f]; rw [if_neg c0, if_neg c1]) jf

/-! ### count -/
theorem cnt15 (n : Nat) : ∀ x : S40, cnt x ≤ n → finD x → Ev (fun k => doc_Count.f k x.f0 x.f1 x.f2 x.f3) (wrap64 (cnt x)) := by
  induction n using Nat.strongRecOn with
  | _ n ih =>
  intro x hn hx
  obtain ⟨_, hm, _⟩ := (finD_eq x).1 hx
  have loop : ∀ d i : Nat, ∀ a : Int, x.f3.length - i = d → i ≤ x.f3.length → Ev (fun k => doc_Count.l0 k (wrap64 a) x.f3 (x.f3.length : Int) (i : Int)) (wrap64 (a + cntL (x.f3.drop i))) := by
    intro d
    induction d with
    | zero =>
      intro i a hd hi
      refine Ev.step (f := fun _ => some (wrap64 a)) (fun k => by simp only [doc_Count.l0]; rw [if_neg (by omega)]) ?_
      rw [List.drop_eq_nil_of_le (by omega)]
      simpa [cntL] using Ev.now (wrap64 a)
    | succ d ihd =>
      intro i a hd hi
      have hil : i < x.f3.length := by omega
      refine Ev.step (f := fun k => (doc_Count.f k x.f3[i].f0 x.f3[i].f1 x.f3[i].f2 x.f3[i].f3).bind fun t => doc_Count.l0 k (wrap64 (wrap64 a + t)) x.f3 (x.f3.length : Int) ((i + 1 : Nat) : Int))
        (fun k => by simp only [doc_Count.l0]; rw [if_pos (by omega), if_pos (by omega), if_pos (by omega), rd40 _ _ hil, wrap_next hil (by omega)]) ?_
      refine Ev.bind (ih (cnt x.f3[i]) (Nat.lt_of_lt_of_le (cnt_lt x i hil) hn) x.f3[i] (Nat.le_refl _) (finD_child hx i hil)) ?_
      have h := ihd (i + 1) (a + cnt x.f3[i]) (by omega) (by omega)
      rw [wrap_add, cntL_drop x.f3 i hil]
      have e : a + ((cnt x.f3[i] + cntL (x.f3.drop (i + 1)) : Nat) : Int) = a + cnt x.f3[i] + cntL (x.f3.drop (i + 1)) := by omega
      rw [e]
      exact h
  have h := loop x.f3.length 0 1 (by omega) (by omega)
  refine Ev.step (f := fun k => doc_Count.l0 k 1 x.f3 (x.f3.length : Int) 0) (fun k => by simp only [doc_Count.f]) ?_
  have e1 : wrap64 1 = 1 := by unfold wrap64; omega
  rw [e1, List.drop_zero] at h
  have e : ((cnt x : Nat) : Int) = 1 + (cntL x.f3 : Int) := by rw [cnt_eq]; omega
  rw [e]
  exact h
theorem cntR (n : Nat) : ∀ x : S40, cnt x ≤ n → finD x → Ev (fun k => galleyref15_Count.f k x.f0 x.f1 x.f2 x.f3) (wrap64 (cnt x)) := by
  induction n using Nat.strongRecOn with
  | _ n ih =>
  intro x hn hx
  obtain ⟨_, hm, _⟩ := (finD_eq x).1 hx
  have loop : ∀ d i : Nat, ∀ a : Int, x.f3.length - i = d → i ≤ x.f3.length → Ev (fun k => galleyref15_Count.l0 k (wrap64 a) (i : Int) x.f0 x.f1 x.f2 x.f3) (wrap64 (a + cntL (x.f3.drop i))) := by
    intro d
    induction d with
    | zero =>
      intro i a hd hi
      refine Ev.step (f := fun _ => some (wrap64 a)) (fun k => by simp only [galleyref15_Count.l0]; rw [if_neg (by omega)]) ?_
      rw [List.drop_eq_nil_of_le (by omega)]
      simpa [cntL] using Ev.now (wrap64 a)
    | succ d ihd =>
      intro i a hd hi
      have hil : i < x.f3.length := by omega
      refine Ev.step (f := fun k => (galleyref15_Count.f k x.f3[i].f0 x.f3[i].f1 x.f3[i].f2 x.f3[i].f3).bind fun t => galleyref15_Count.l0 k (wrap64 (wrap64 a + t)) ((i + 1 : Nat) : Int) x.f0 x.f1 x.f2 x.f3)
        (fun k => by simp only [galleyref15_Count.l0]; rw [if_pos (by omega), if_pos (by omega), rd40 _ _ hil, wrap_next hil (by omega)]) ?_
      refine Ev.bind (ih (cnt x.f3[i]) (Nat.lt_of_lt_of_le (cnt_lt x i hil) hn) x.f3[i] (Nat.le_refl _) (finD_child hx i hil)) ?_
      have h := ihd (i + 1) (a + cnt x.f3[i]) (by omega) (by omega)
      rw [wrap_add, cntL_drop x.f3 i hil]
      have e : a + ((cnt x.f3[i] + cntL (x.f3.drop (i + 1)) : Nat) : Int) = a + cnt x.f3[i] + cntL (x.f3.drop (i + 1)) := by omega
      rw [e]
      exact h
  have h := loop x.f3.length 0 1 (by omega) (by omega)
  refine Ev.step (f := fun k => galleyref15_Count.l0 k 1 0 x.f0 x.f1 x.f2 x.f3) (fun k => by simp only [galleyref15_Count.f]) ?_
  have e1 : wrap64 1 = 1 := by unfold wrap64; omega
  rw [e1, List.drop_zero] at h
  have e : ((cnt x : Nat) : Int) = 1 + (cntL x.f3 : Int) := by rw [cnt_eq]; omega
  rw [e]
  exact h

/-! ### deep -/
theorem deepR (n : Nat) : ∀ (x : S40) (m : Nat), cnt x ≤ n → finD x → dep x ≤ m + 1 → m ≤ 1000000 → Ev (fun k => galleyref15_deep.f k x.f0 x.f1 x.f2 x.f3 (m : Int)) (dep x : Int) := by
  induction n using Nat.strongRecOn with
  | _ n ih =>
  intro x m hn hx hm hb
  obtain ⟨_, hl, _⟩ := (finD_eq x).1 hx
  rw [dep_eq] at hm ⊢
  have loop : ∀ d i : Nat, ∀ a : Nat, a ≤ 1000000 → x.f3.length - i = d → i ≤ x.f3.length → Ev (fun k => galleyref15_deep.l0 k (m : Int) (a : Int) (i : Int) x.f0 x.f1 x.f2 x.f3) ((1 + max a (depL (x.f3.drop i)) : Nat) : Int) := by
    intro d
    induction d with
    | zero =>
      intro i a ha hd hi
      refine Ev.step (f := fun _ => some ((1 + a : Nat) : Int)) (fun k => by simp only [galleyref15_deep.l0]; rw [if_neg (by omega)]; rw [show wrap64 ((a : Int) + 1) = ((1 + a : Nat) : Int) by unfold wrap64; omega]) ?_
      rw [List.drop_eq_nil_of_le (by omega)]
      simpa [depL] using Ev.now ((1 + a : Nat) : Int)
    | succ d ihd =>
      intro i a ha hd hi
      have hil : i < x.f3.length := by omega
      have h1 := depL_drop_le x.f3 i
      rw [depL_drop x.f3 i hil] at h1
      have hp : 1 ≤ dep x.f3[i] := by rw [dep_eq]; omega
      obtain ⟨m', rfl⟩ : ∃ m', m = m' + 1 := ⟨m - 1, by omega⟩
      refine Ev.step (f := fun k => (galleyref15_deep.f k x.f3[i].f0 x.f3[i].f1 x.f3[i].f2 x.f3[i].f3 (m' : Int)).bind fun t => galleyref15_deep.l0 k ((m' + 1 : Nat) : Int) (mx (a : Int) t) ((i + 1 : Nat) : Int) x.f0 x.f1 x.f2 x.f3)
        (fun k => by simp only [galleyref15_deep.l0]; rw [if_pos (by omega), if_pos (by omega), if_pos (by omega), rd40 _ _ hil, wrap_next hil (by omega), show wrap64 (((m' + 1 : Nat) : Int) - 1) = (m' : Int) by unfold wrap64; omega]) ?_
      refine Ev.bind (ih (cnt x.f3[i]) (Nat.lt_of_lt_of_le (cnt_lt x i hil) hn) x.f3[i] m' (Nat.le_refl _) (finD_child hx i hil) (by omega) (by omega)) ?_
      have e : mx (a : Int) (dep x.f3[i] : Int) = ((max a (dep x.f3[i]) : Nat) : Int) := by unfold mx; split <;> omega
      rw [e, depL_drop x.f3 i hil, ← Nat.max_assoc]
      exact ihd (i + 1) (max a (dep x.f3[i])) (by omega) (by omega) (by omega)
  have h := loop x.f3.length 0 0 (by omega) (by omega) (by omega)
  rw [List.drop_zero, Nat.zero_max] at h
  exact Ev.step (f := fun k => galleyref15_deep.l0 k (m : Int) ((0 : Nat) : Int) ((0 : Nat) : Int) x.f0 x.f1 x.f2 x.f3) (fun k => by simp only [galleyref15_deep.f]; rfl) h

/-! ### right -/
theorem allOwn_eq (x : S40) : allOwn x = (ownB x && allOwnL x.f3) := by cases x; rfl
theorem allOwnL_drop (l : List S40) (i : Nat) (h : i < l.length) : allOwnL (l.drop i) = (allOwn l[i] && allOwnL (l.drop (i + 1))) := by rw [List.drop_eq_getElem_cons h]; rfl
theorem bt_nat (s : ByteArray) (i : Nat) (h : i < s.data.toList.length) : bt s (i : Int) = (s.data.toList[i].toNat : Int) := by
  have h' : i < s.size := by simpa using h
  unfold bt
  rw [dif_pos (by simpa using h')]
  simp [ByteArray.getElem_eq_getElem_data]
theorem has10_drop (s : ByteArray) (i : Nat) (h : i < s.data.toList.length) : (s.data.toList.drop i).contains 10 = (decide (s.data.toList[i] = 10) || (s.data.toList.drop (i + 1)).contains 10) := by
  rw [List.drop_eq_getElem_cons h, List.contains_cons]
  congr 1
  by_cases h : s.data.toList[i] = 10
  · rw [decide_eq_true h, h]; rfl
  · rw [decide_eq_false h]; exact beq_eq_false_iff_ne.mpr (fun e => h e.symm)
theorem rightR (n : Nat) : ∀ x : S40, cnt x ≤ n → finD x → Ev (fun k => galleyref15_right.f k x.f0 x.f1 x.f2 x.f3) (allOwn x) := by
  induction n using Nat.strongRecOn with
  | _ n ih =>
  intro x hn hx
  obtain ⟨hs, hm, _⟩ := (finD_eq x).1 hx
  have hlen2 : ∀ l : List S40, ((l.length : Int) = 0) ↔ l.isEmpty = true := fun l => by cases l <;> simp; omega
  have hsz : x.f2.size = x.f2.data.toList.length := by rw [Array.length_toList]; rfl
  have e0 : ∀ z : Int, (z == 0) = decide (z = 0) := fun z => by by_cases h : z = 0 <;> simp [h]
  have hst : ∀ s : ByteArray, (s.toList = ([] : List UInt8)) ↔ s.toList.isEmpty = true := fun s => by rw [List.isEmpty_iff]
  have hbe : (x.f2.toList == ([] : List UInt8)) = x.f2.toList.isEmpty := by cases x.f2.toList <;> rfl
  have loop1 : ∀ d i : Nat, x.f3.length - i = d → i ≤ x.f3.length → Ev (fun k => galleyref15_right.l1 k (i : Int) x.f0 x.f1 x.f2 x.f3) (allOwnL (x.f3.drop i) && x.f2.toList.isEmpty) := by
    intro d
    induction d with
    | zero =>
      intro i hd hi
      refine Ev.step (f := fun _ => some x.f2.toList.isEmpty) (fun k => by simp only [galleyref15_right.l1]; rw [if_neg (by omega), hbe]) ?_
      rw [List.drop_eq_nil_of_le (by omega)]
      exact Ev.now _
    | succ d ihd =>
      intro i hd hi
      have hil : i < x.f3.length := by omega
      refine Ev.step (f := fun k => (galleyref15_right.f k x.f3[i].f0 x.f3[i].f1 x.f3[i].f2 x.f3[i].f3).bind fun t => if t = true then galleyref15_right.l1 k ((i + 1 : Nat) : Int) x.f0 x.f1 x.f2 x.f3 else some false)
        (fun k => by simp only [galleyref15_right.l1]; rw [if_pos (by omega), if_pos (by omega), rd40 _ _ hil, wrap_next hil (by omega)]) ?_
      refine Ev.bind (ih (cnt x.f3[i]) (Nat.lt_of_lt_of_le (cnt_lt x i hil) hn) x.f3[i] (Nat.le_refl _) (finD_child hx i hil)) ?_
      rw [allOwnL_drop x.f3 i hil]
      cases allOwn x.f3[i]
      · exact Ev.now _
      · exact ihd (i + 1) (by omega) (by omega)
  have j2 : Ev (fun k => galleyref15_right.j2 k x.f0 x.f1 x.f2 x.f3) (x.f2.toList.isEmpty && allOwnL x.f3) := by
    rw [Bool.and_comm]
    exact Ev.step (f := fun k => galleyref15_right.l1 k ((0 : Nat) : Int) x.f0 x.f1 x.f2 x.f3) (fun k => by simp only [galleyref15_right.j2]; rfl) (loop1 x.f3.length 0 (by omega) (by omega))
  have loop0 : ∀ d i : Nat, x.f2.data.toList.length - i = d → i ≤ x.f2.data.toList.length → Ev (fun k => galleyref15_right.l0 k (i : Int) x.f0 x.f1 x.f2 x.f3) (!((x.f2.data.toList.drop i).contains 10) && x.f3.isEmpty && decide (x.f1 = 0)) := by
    intro d
    induction d with
    | zero =>
      intro i hd hi
      rw [List.drop_eq_nil_of_le (by omega)]
      refine Ev.step (f := fun _ => some (x.f3.isEmpty && decide (x.f1 = 0))) (fun k => ?_) (by simpa using Ev.now _)
      simp only [galleyref15_right.l0]
      rw [if_neg (by omega), e0]
      cases h : x.f3.isEmpty
      · rw [if_neg (by rw [hlen2]; simp [h])]; rfl
      · rw [if_pos ((hlen2 _).2 h)]; rfl
    | succ d ihd =>
      intro i hd hi
      have hil : i < x.f2.data.toList.length := by omega
      rw [has10_drop x.f2 i hil]
      by_cases hc : x.f2.data.toList[i] = 10
      · rw [decide_eq_true hc]
        exact Ev.step (f := fun _ => some false) (fun k => by simp only [galleyref15_right.l0]; rw [if_pos (by omega), if_pos (by omega), bt_nat _ _ hil, if_pos (by rw [hc]; rfl)]) (Ev.now _)
      · rw [decide_eq_false hc, Bool.false_or]
        have hc' : ¬ ((x.f2.data.toList[i].toNat : Int) = 10) := by
          intro h
          apply hc
          apply UInt8.toNat_inj.1
          have h3 : x.f2.data.toList[i].toNat = 10 := by omega
          rw [h3]
          rfl
        refine Ev.step (f := fun k => galleyref15_right.l0 k ((i + 1 : Nat) : Int) x.f0 x.f1 x.f2 x.f3) (fun k => by simp only [galleyref15_right.l0]; rw [if_pos (by omega), if_pos (by omega), bt_nat _ _ hil, if_neg hc', wrap_next hil (by omega)]) ?_
        exact ihd (i + 1) (by omega) (by omega)
  have j1t : Ev (fun k => galleyref15_right.j1 k x.f0 true x.f0 x.f1 x.f2 x.f3) (x.f2.toList.isEmpty && decide (x.f1 = 0) && x.f3.isEmpty) := by
    refine Ev.step (f := fun _ => some (x.f2.toList.isEmpty && decide (x.f1 = 0) && x.f3.isEmpty)) (fun k => ?_) (Ev.now _)
    simp only [galleyref15_right.j1, if_true, e0]
    cases h1 : x.f2.toList.isEmpty
    · rw [if_neg (by rw [hst]; simp [h1])]; simp
    · rw [if_pos ((hst _).2 h1)]
      cases h : x.f3.isEmpty
      · rw [if_neg (by rw [hlen2]; simp [h])]; simp
      · rw [if_pos ((hlen2 _).2 h)]; simp
  have nl : x.f3.isEmpty = true → allOwnL x.f3 = true := fun h => by rw [List.isEmpty_iff.1 h]; rfl
  rw [allOwn_eq]
  unfold ownB
  by_cases c1 : x.f0 = 1
  · rw [if_pos c1]
    have e : (decide (x.f1 = 0) && x.f3.isEmpty && !has10 x.f2 && allOwnL x.f3) = (!((x.f2.data.toList.drop 0).contains 10) && x.f3.isEmpty && decide (x.f1 = 0)) := by
      rw [List.drop_zero]
      unfold has10
      cases h : x.f3.isEmpty
      · simp
      · rw [nl h]; cases x.f2.data.toList.contains 10 <;> simp
    rw [e]
    exact Ev.step (f := fun k => galleyref15_right.l0 k ((0 : Nat) : Int) x.f0 x.f1 x.f2 x.f3) (fun k => by simp only [galleyref15_right.f]; rw [if_pos c1]; rfl) (loop0 x.f2.data.toList.length 0 (by omega) (by omega))
  rw [if_neg c1]
  by_cases c2 : x.f0 = 2 ∨ x.f0 = 3 ∨ x.f0 = 4
  · rw [if_pos c2]
    have e : (x.f2.toList.isEmpty && decide (x.f1 = 0) && x.f3.isEmpty && allOwnL x.f3) = (x.f2.toList.isEmpty && decide (x.f1 = 0) && x.f3.isEmpty) := by
      cases h : x.f3.isEmpty
      · simp
      · rw [nl h]; simp
    rw [e]
    refine Ev.step (f := fun k => galleyref15_right.j1 k x.f0 true x.f0 x.f1 x.f2 x.f3) (fun k => ?_) j1t
    simp only [galleyref15_right.f]
    rw [if_neg c1]
    rcases c2 with h | h | h
    · rw [if_pos h, h]; rfl
    · rw [if_neg (by omega), if_pos h, h]; rfl
    · rw [if_neg (by omega), if_neg (by omega), h]; rfl
  rw [if_neg c2]
  have c2a : ¬ x.f0 = 2 := fun h => c2 (Or.inl h)
  have c2b : ¬ x.f0 = 3 := fun h => c2 (Or.inr (Or.inl h))
  have c2c : ¬ x.f0 = 4 := fun h => c2 (Or.inr (Or.inr h))
  refine Ev.step (f := fun k => galleyref15_right.j1 k x.f0 false x.f0 x.f1 x.f2 x.f3) (fun k => by simp only [galleyref15_right.f]; rw [if_neg c1, if_neg c2a, if_neg c2b, beq_eq_false_iff_ne.mpr c2c]) ?_
  have cut : ∀ (b c : Bool), (c && b && allOwnL x.f3) = if b then (c && allOwnL x.f3) else false := fun b c => by cases b <;> simp
  by_cases c5 : x.f0 = 5
  · rw [if_pos c5, cut]
    by_cases h : x.f1 = 0
    · rw [decide_eq_true h, if_pos rfl]
      exact Ev.step (fun k => by simp only [galleyref15_right.j1]; rw [if_neg (by decide), if_pos c5, if_pos h]) j2
    · rw [decide_eq_false h, if_neg (by decide)]
      exact Ev.step (f := fun _ => some false) (fun k => by simp only [galleyref15_right.j1]; rw [if_neg (by decide), if_pos c5, if_neg h]) (Ev.now _)
  rw [if_neg c5]
  by_cases c6 : x.f0 = 6
  · rw [if_pos c6, Bool.and_assoc x.f2.toList.isEmpty, cut]
    by_cases h : x.f1 < 0
    · rw [show (decide (0 ≤ x.f1) && decide (x.f1 ≤ 1000)) = false by rw [decide_eq_false (show ¬ 0 ≤ x.f1 by omega)]; rfl, if_neg (by decide)]
      exact Ev.step (f := fun _ => some false) (fun k => by simp only [galleyref15_right.j1]; rw [if_neg (by decide), if_neg c5, if_pos c6, if_pos h]) (Ev.now _)
    · by_cases h2 : x.f1 > 1000
      · rw [show (decide (0 ≤ x.f1) && decide (x.f1 ≤ 1000)) = false by rw [decide_eq_false (show ¬ x.f1 ≤ 1000 by omega), Bool.and_false], if_neg (by decide)]
        exact Ev.step (f := fun _ => some false) (fun k => by simp only [galleyref15_right.j1]; rw [if_neg (by decide), if_neg c5, if_pos c6, if_neg h, if_pos h2]) (Ev.now _)
      · rw [show (decide (0 ≤ x.f1) && decide (x.f1 ≤ 1000)) = true by rw [decide_eq_true (show 0 ≤ x.f1 by omega), decide_eq_true (show x.f1 ≤ 1000 by omega)]; rfl, if_pos rfl]
        exact Ev.step (fun k => by simp only [galleyref15_right.j1]; rw [if_neg (by decide), if_neg c5, if_pos c6, if_neg h, if_neg h2]) j2
  rw [if_neg c6]
  by_cases c7 : x.f0 = 7
  · rw [if_pos c7, cut]
    by_cases h : x.f1 = 0
    · rw [decide_eq_true (show x.f1 / 2 = 0 by omega), if_pos rfl]
      exact Ev.step (fun k => by simp only [galleyref15_right.j1]; rw [if_neg (by decide), if_neg c5, if_neg c6, if_pos c7, if_pos h]) j2
    · by_cases h2 : x.f1 = 1
      · rw [decide_eq_true (show x.f1 / 2 = 0 by omega), if_pos rfl]
        exact Ev.step (fun k => by simp only [galleyref15_right.j1]; rw [if_neg (by decide), if_neg c5, if_neg c6, if_pos c7, if_neg h, if_pos h2]) j2
      · rw [decide_eq_false (show ¬ x.f1 / 2 = 0 by omega), if_neg (by decide)]
        exact Ev.step (f := fun _ => some false) (fun k => by simp only [galleyref15_right.j1]; rw [if_neg (by decide), if_neg c5, if_neg c6, if_pos c7, if_neg h, if_neg h2]) (Ev.now _)
  rw [if_neg c7]
  exact Ev.step (f := fun _ => some false) (fun k => by simp only [galleyref15_right.j1]; rw [if_neg (by decide), if_neg c5, if_neg c6, if_neg c7]) (Ev.now _)

theorem mayR (x : S40) (hx : finD x) (hc : cnt x ≤ 500) (hd : dep x ≤ 60) : Ev (fun k => galleyref15_May.f k x.f0 x.f1 x.f2 x.f3) (mayB x) := by
  refine Ev.bind (deepR _ x 200001 (Nat.le_refl _) hx (by omega) (by omega)) ?_
  refine Ev.yes (by omega) ?_
  refine Ev.bind (rightR _ x (Nat.le_refl _) hx) ?_
  unfold mayB
  rw [decide_eq_true (show dep x ≤ 200000 by omega), decide_eq_true (show cnt x ≤ 2000000 by omega)]
  cases allOwn x
  · exact Ev.no (by decide) (Ev.now _)
  · refine Ev.yes rfl ?_
    refine Ev.bind (cntR _ x (Nat.le_refl _) hx) ?_
    have e : decide (wrap64 (cnt x : Int) ≤ 2000000) = true := decide_eq_true (by unfold wrap64; omega)
    rw [e]
    exact Ev.now _
theorem eta40 (x : S40) : (⟨x.f0, x.f1, x.f2, x.f3⟩ : S40) = x := by cases x; rfl

theorem DocAsks_pure (x : S40) : ∃ k, galleylaw15_DocAsks.f k x.f0 x.f1 x.f2 x.f3 = some true := by
  apply Ev.rounds
  refine Ev.bind (Few15 x) ?_
  by_cases hx : fewD x 60 ≤ 500
  rotate_left
  · rw [decide_eq_false hx]
    exact Ev.now _
  rw [decide_eq_true hx]
  obtain ⟨h1, h2, h3⟩ := fewD_small x 60 hx
  refine Ev.yes rfl ?_
  refine Ev.bindc (a := true) rfl (Ev.yes rfl ?_)
  refine Ev.bindc (a := mayB x) (by unfold doc_May.f; rw [eta40]) ?_
  refine Ev.bind (mayR x h3 (by omega) h2) (Ev.yes (by simp) ?_)
  refine Ev.bind (frc15 _ x (Nat.le_refl _) h3) ?_
  refine Ev.bind (frcR _ x (Nat.le_refl _) h3) (Ev.yes (by simp) ?_)
  refine Ev.bind (cnt15 _ x (Nat.le_refl _) h3) ?_
  refine Ev.bind (cntR _ x (Nat.le_refl _) h3) ?_
  simpa using Ev.now true
theorem DocAsks_walk {w : World} (x : S40) (A3 : Option Addr) (c3 : Nat) (hx : Dc w x A3 c3) :
    Calls Try.prog 7 #[.agg #[.int .i64 x.f0, .int .i64 x.f1, .string x.f2, .slice A3 x.f3.length c3]] w fun e w' => e = .returned (.bool true) ∧ Below w.heap.size w w' := by
  obtain ⟨k, h⟩ := DocAsks_pure x
  exact galleylaw15_DocAsks.calls k _ _ _ _ _ _ true w hx.g3 hx.l3 h rfl
end Go.Proofs.Ytjlnlonioknkhaa.PA

/- Plain: the document's widths and fronts. -/
import Derived.Test.YtigihiggpfjbjaaHLC
import Derived.Test.YtigihiggpfjbjaaPRxd
namespace Go.Proofs.Ytigihiggpfjbjaa.PR
open Go.RowKit Go.Proofs.YtigihiggpfjbjaaW.PrintWords Go.Proofs.YtigihiggpfjbjaaW.PrintLast Go.Proofs.YtigihiggpfjbjaaW.PrintMore
set_option linter.unusedVariables false
set_option linter.unusedSimpArgs false
/-! ### widths -/
theorem leaf_wd {x : S24} (h : ownB x = true) (hk : x.f0 = 1 ∨ x.f0 = 2) : wdV x = if x.f0 = 1 then (cw x.f2 : Int) else 1 := by
  have hl : x.f3 = [] := by
    unfold ownB at h
    rcases hk with hk | hk
    · rw [if_pos hk] at h
      simp only [Bool.and_eq_true, List.isEmpty_iff] at h
      exact h.1.2
    · rw [if_neg (by omega), if_pos (by omega)] at h
      simp only [Bool.and_eq_true, List.isEmpty_iff] at h
      exact h.2
  rw [wdV_eq, hl, wdL, Int.add_zero, own1]
  rcases hk with hk | hk <;> simp [hk]
theorem wdL_drop (l : List S24) (i : Nat) (h : i < l.length) : wdL (l.drop i) = wdV l[i] + wdL (l.drop (i + 1)) := by rw [List.drop_eq_getElem_cons h]; rfl
theorem allOwnL_at {l : List S24} (h : allOwnL l = true) (i : Nat) (hi : i < l.length) : allOwn l[i] = true := by
  induction l generalizing i with
  | nil => simp at hi
  | cons y r ihr =>
    rw [allOwnL, Bool.and_eq_true] at h
    cases i with
    | zero => exact h.1
    | succ i => exact ihr h.2 i (by simpa using hi)
theorem finDL_drop : ∀ (l : List S24) (i : Nat), finDL l → finDL (l.drop i)
  | [], i, h => by rw [List.drop_nil]; exact h
  | x :: r, 0, h => h
  | x :: r, i + 1, h => finDL_drop r i h.2
theorem widthR (n : Nat) : ∀ x : S24, cnt x ≤ n → cnt x ≤ 500 → finD x → allOwn x = true → Ev (fun k => galleyref15_Width.f k x.f0 x.f1 x.f2 x.f3) (wdV x) := by
  induction n using Nat.strongRecOn with
  | _ n ih =>
  intro x hn h500 hx ho
  rw [allOwn_eq, Bool.and_eq_true] at ho
  obtain ⟨hs, hm, hl⟩ := (finD_eq x).1 hx
  have hcx := cnt_eq x
  have loop : ∀ d i : Nat, ∀ a : Int, x.f3.length - i = d → i ≤ x.f3.length → 0 ≤ a → a + 101 * cntL (x.f3.drop i) ≤ 1000000 → Ev (fun k => galleyref15_Width.l0 k a (i : Int) x.f0 x.f1 x.f2 x.f3) (a + wdL (x.f3.drop i)) := by
    intro d
    induction d with
    | zero =>
      intro i a hd hi h0 ha
      rw [List.drop_eq_nil_of_le (by omega), wdL, Int.add_zero]
      exact Ev.step (f := fun _ => some a) (fun k => by simp only [galleyref15_Width.l0]; rw [if_neg (by omega)]) (Ev.now _)
    | succ d ihd =>
      intro i a hd hi h0 ha
      have hil : i < x.f3.length := by omega
      have hw := wdV_le _ (finD_child hx i hil)
      rw [cntL_drop x.f3 i hil] at ha
      have hci := cnt_lt x i hil
      refine Ev.step (f := fun k => (galleyref15_Width.f k x.f3[i].f0 x.f3[i].f1 x.f3[i].f2 x.f3[i].f3).bind fun t => galleyref15_Width.l0 k (wrap64 (a + t)) ((i + 1 : Nat) : Int) x.f0 x.f1 x.f2 x.f3)
        (fun k => by simp only [galleyref15_Width.l0]; rw [if_pos (by omega), if_pos (by omega), rd24 _ _ hil, wrap_next hil (by omega)]) ?_
      refine Ev.bind (ih (cnt x.f3[i]) (Nat.lt_of_lt_of_le (cnt_lt x i hil) hn) x.f3[i] (Nat.le_refl _) (by omega) (finD_child hx i hil) (allOwnL_at ho.2 i hil)) ?_
      rw [wdL_drop x.f3 i hil, ← Int.add_assoc, show wrap64 (a + wdV x.f3[i]) = a + wdV x.f3[i] by unfold wrap64; omega]
      exact ihd (i + 1) (a + wdV x.f3[i]) (by omega) (by omega) (by omega) (by omega)
  by_cases c1 : x.f0 = 1
  · rw [leaf_wd ho.1 (Or.inl c1), if_pos c1]
    exact Ev.step (f := fun k => (galleyref1_Count.f k x.f2).bind fun t => some t) (fun k => by simp only [galleyref15_Width.f]; rw [if_pos c1]) (Ev.bind (countR x.f2 (by omega)) (Ev.now _))
  by_cases c2 : x.f0 = 2
  · rw [leaf_wd ho.1 (Or.inr c2), if_neg c1]
    exact Ev.step (fun k => by simp only [galleyref15_Width.f]; rw [if_neg c1, if_pos c2]) (Ev.now _)
  have h := loop x.f3.length 0 0 (by omega) (by omega) (by omega) (by rw [List.drop_zero]; omega)
  rw [List.drop_zero, Int.zero_add] at h
  rw [wdV_eq, own1, if_neg c1, if_neg c2, Int.zero_add]
  exact Ev.step (f := fun k => galleyref15_Width.l0 k 0 ((0 : Nat) : Int) x.f0 x.f1 x.f2 x.f3) (fun k => by simp only [galleyref15_Width.f]; rw [if_neg c1, if_neg c2]; rfl) h
/-! ### fronts -/
theorem ldL_stop : ∀ (l : List S24) (n : Int), ldL l (n, true) = (n, true)
  | [], _ => rfl
  | x :: r, n => by rw [ldL, if_pos rfl]; exact ldL_stop r n
theorem leaf_ld {x : S24} (h : ownB x = true) (hk : x.f0 = 1 ∨ x.f0 = 2 ∨ x.f0 = 3 ∨ x.f0 = 4) : ldV x = lead0 x.f0 x.f2 := by
  have hl : x.f3 = [] := by
    unfold ownB at h
    by_cases h1 : x.f0 = 1
    · rw [if_pos h1] at h
      simp only [Bool.and_eq_true, List.isEmpty_iff] at h
      exact h.1.2
    · rw [if_neg h1, if_pos (by omega)] at h
      simp only [Bool.and_eq_true, List.isEmpty_iff] at h
      exact h.2
  rw [ldV_eq, hl]
  rfl
theorem ldL_drop (l : List S24) (i : Nat) (h : i < l.length) (p : Int × Bool) : ldL (l.drop i) p = ldL (l.drop (i + 1)) (if p.2 = true then p else (p.1 + (ldV l[i]).1, (ldV l[i]).2)) := by rw [List.drop_eq_getElem_cons h]; rfl
/-- The loop of front over a row. -/
theorem front_loop (k0 k1 : Int) (s : ByteArray) (l : List S24) (hl : finDL l) (hm : l.length ≤ 500) (hf : ∀ i (h : i < l.length), Ev (fun k => galleyref15_front.f k l[i].f0 l[i].f1 l[i].f2 l[i].f3) (ldV l[i])) :
    ∀ d i : Nat, ∀ a : Int, l.length - i = d → i ≤ l.length → 0 ≤ a → a + 101 * cntL (l.drop i) ≤ 1000000 → Ev (fun k => galleyref15_front.l0 k a (i : Int) k0 k1 s l) (ldL (l.drop i) (a, false)) := by
  intro d
  induction d with
  | zero =>
    intro i a hd hi h0 ha
    rw [List.drop_eq_nil_of_le (by omega)]
    exact Ev.step (f := fun _ => some (a, false)) (fun k => by simp only [galleyref15_front.l0]; rw [if_neg (by omega)]) (Ev.now _)
  | succ d ihd =>
    intro i a hd hi h0 ha
    have hil : i < l.length := by omega
    have hw := ldV_le _ (finDL_get l hl i hil)
    rw [cntL_drop l i hil] at ha
    refine Ev.step (f := fun k => (galleyref15_front.f k l[i].f0 l[i].f1 l[i].f2 l[i].f3).bind fun t => if t.2 = true then some (wrap64 (a + t.1), true) else galleyref15_front.l0 k (wrap64 (a + t.1)) ((i + 1 : Nat) : Int) k0 k1 s l)
      (fun k => by simp only [galleyref15_front.l0]; rw [if_pos (by omega), if_pos (by omega), rd24 _ _ hil, wrap_next hil (by omega)]) ?_
    refine Ev.bind (hf i hil) ?_
    rw [ldL_drop l i hil, if_neg (show ¬ ((a, false) : Int × Bool).2 = true from fun h => by cases h)]
    have e : wrap64 (a + (ldV l[i]).1) = a + (ldV l[i]).1 := by unfold wrap64; omega
    simp only [e]
    cases h2 : (ldV l[i]).2
    · exact Ev.no (by decide) (ihd (i + 1) (a + (ldV l[i]).1) (by omega) (by omega) (by omega) (by omega))
    · rw [ldL_stop]
      exact Ev.yes rfl (Ev.now _)
theorem frontR (n : Nat) : ∀ x : S24, cnt x ≤ n → cnt x ≤ 500 → finD x → allOwn x = true → Ev (fun k => galleyref15_front.f k x.f0 x.f1 x.f2 x.f3) (ldV x) := by
  induction n using Nat.strongRecOn with
  | _ n ih =>
  intro x hn h500 hx ho
  rw [allOwn_eq, Bool.and_eq_true] at ho
  obtain ⟨hs, hm, hl⟩ := (finD_eq x).1 hx
  have hcx := cnt_eq x
  by_cases c1 : x.f0 = 1
  · rw [leaf_ld ho.1 (Or.inl c1), lead0, if_pos c1]
    exact Ev.step (f := fun k => (galleyref1_Count.f k x.f2).bind fun t => some (t, false)) (fun k => by simp only [galleyref15_front.f]; rw [if_pos c1]) (Ev.bind (countR x.f2 (by omega)) (Ev.now _))
  by_cases c2 : x.f0 = 2
  · rw [leaf_ld ho.1 (by omega), lead0, if_neg c1, if_pos c2]
    exact Ev.step (fun k => by simp only [galleyref15_front.f]; rw [if_neg c1, if_pos c2]) (Ev.now _)
  by_cases c3 : x.f0 = 3
  · rw [leaf_ld ho.1 (by omega), lead0, if_neg c1, if_neg c2, if_pos c3]
    exact Ev.step (fun k => by simp only [galleyref15_front.f]; rw [if_neg c1, if_neg c2, if_pos c3]) (Ev.now _)
  by_cases c4 : x.f0 = 4
  · rw [leaf_ld ho.1 (by omega), lead0, if_neg c1, if_neg c2, if_neg c3, if_pos c4]
    exact Ev.step (fun k => by simp only [galleyref15_front.f]; rw [if_neg c1, if_neg c2, if_neg c3, if_pos c4]) (Ev.now _)
  have h := front_loop x.f0 x.f1 x.f2 x.f3 hl hm (fun i hil => ih (cnt x.f3[i]) (Nat.lt_of_lt_of_le (cnt_lt x i hil) hn) x.f3[i] (Nat.le_refl _) (by have := cnt_lt x i hil; omega) (finD_child hx i hil) (allOwnL_at ho.2 i hil)) x.f3.length 0 0 (by omega) (by omega) (by omega) (by rw [List.drop_zero]; omega)
  rw [List.drop_zero] at h
  rw [ldV_eq, lead0, if_neg c1, if_neg c2, if_neg c3, if_neg c4]
  exact Ev.step (f := fun k => galleyref15_front.l0 k 0 ((0 : Nat) : Int) x.f0 x.f1 x.f2 x.f3) (fun k => by simp only [galleyref15_front.f]; rw [if_neg c1, if_neg c2, if_neg c3, if_neg c4]; rfl) h
/-- First of a row. -/
theorem firstR (l : List S24) (hl : finDL l) (hc : cntL l ≤ 1000) (hm : l.length ≤ 500) (ho : allOwnL l = true) (h5 : ∀ x ∈ l, cnt x ≤ 500) : Ev (fun k => galleyref15_First.f k l) (ldL l (0, false)).1 := by
  have h := front_loop 5 0 (⟨#[]⟩ : ByteArray) l hl hm (fun i hil => frontR _ l[i] (Nat.le_refl _) (h5 _ (List.getElem_mem hil)) (finDL_get l hl i hil) (allOwnL_at ho i hil)) l.length 0 0 (by omega) (by omega) (by omega) (by rw [List.drop_zero]; omega)
  rw [List.drop_zero] at h
  refine Ev.bind (Ev.step (f := fun k => galleyref15_front.l0 k 0 ((0 : Nat) : Int) 5 0 (⟨#[]⟩ : ByteArray) l) (fun k => by simp only [galleyref15_front.f]; rfl) h) (Ev.now _)
theorem wid_of (x : S24) (A : Option Addr) (c : Nat) (w : World) (h : Dc w x A c) (hx : finD x) (hc : cnt x ≤ 500) (ho : allOwn x = true) : Calls Try.prog 19 #[.agg #[.int .i64 x.f0, .int .i64 x.f1, .string x.f2, .slice A x.f3.length c]] w fun e w' => e = .returned (.int .i64 (wdV x)) ∧ Below w.heap.size w w' := by
  obtain ⟨k, hk⟩ := (widthR _ x (Nat.le_refl _) hc hx ho).rounds
  exact galleyref15_Width.calls k _ _ _ _ _ _ _ w h.g3 h.l3 hk
end Go.Proofs.Ytigihiggpfjbjaa.PR

/- Plain: words, flat, widths, fronts of the document's. -/
import Derived.Test.YtigihiggpfjbjaaHC4
import Derived.Test.YtigihiggpfjbjaaHW8
import Derived.Test.YtigihiggpfjbjaaPRx5
import Derived.Test.YtigihiggpfjbjaaHM4
namespace Go.Proofs.Ytigihiggpfjbjaa.PR
open Go.RowKit Go.Proofs.YtigihiggpfjbjaaW.PrintWords Go.Proofs.YtigihiggpfjbjaaW.PrintLast Go.Proofs.YtigihiggpfjbjaaW.PrintMore
set_option linter.unusedVariables false
set_option linter.unusedSimpArgs false
theorem bytesOf_append (a b : ByteArray) : bytesOf (a ++ b) = bytesOf a ++ bytesOf b := by simp [bytesOf]
theorem bytesOf_nil : bytesOf (⟨#[]⟩ : ByteArray) = [] := rfl
theorem ba_nil_append (a : ByteArray) : (⟨#[]⟩ : ByteArray) ++ a = a := by
  apply ByteArray.ext
  simp
theorem ba_append_nil (a : ByteArray) : a ++ (⟨#[]⟩ : ByteArray) = a := by
  apply ByteArray.ext
  simp
theorem ba_assoc (a b c : ByteArray) : a ++ b ++ c = a ++ (b ++ c) := by
  apply ByteArray.ext
  simp
theorem ba_size (a b : ByteArray) : (a ++ b).size = a.size + b.size := by simp
/-! ### words -/
def hasB (b : UInt8) (s : ByteArray) : Bool := s.data.toList.contains b
mutual
/-- No text has a blank. -/
def okW : S24 → Bool
  | ⟨_, _, s, l⟩ => !hasB 32 s && okWL l
def okWL : List S24 → Bool
  | [] => true
  | x :: r => okW x && okWL r
end
mutual
/-- All texts. -/
def wordV : S24 → ByteArray
  | ⟨_, _, s, l⟩ => s ++ wordL l
def wordL : List S24 → ByteArray
  | [] => ⟨#[]⟩
  | x :: r => wordV x ++ wordL r
end
theorem okW_eq (x : S24) : okW x = (!hasB 32 x.f2 && okWL x.f3) := by cases x; rfl
theorem wordV_eq (x : S24) : wordV x = x.f2 ++ wordL x.f3 := by cases x; rfl
theorem okWL_drop (l : List S24) (i : Nat) (h : i < l.length) : okWL (l.drop i) = (okW l[i] && okWL (l.drop (i + 1))) := by rw [List.drop_eq_getElem_cons h]; rfl
theorem wordL_drop (l : List S24) (i : Nat) (h : i < l.length) : wordL (l.drop i) = wordV l[i] ++ wordL (l.drop (i + 1)) := by rw [List.drop_eq_getElem_cons h]; rfl
mutual
theorem wordV_size : ∀ (x : S24), finD x → (wordV x).size ≤ 100 * cnt x
  | ⟨k, n, s, l⟩, h => by
    have h1 := wordL_size l h.2.2
    have h3 : s.size ≤ 100 := h.1
    simp only [wordV, cnt, ba_size]
    omega
theorem wordL_size : ∀ (l : List S24), finDL l → (wordL l).size ≤ 100 * cntL l
  | [], _ => by simp [wordL, cntL]; rfl
  | x :: r, h => by
    have h1 := wordV_size x h.1
    have h2 := wordL_size r h.2
    simp only [wordL, cntL, ba_size]
    omega
end
theorem hasB_drop (b : UInt8) (s : ByteArray) (i : Nat) (h : i < s.data.toList.length) : (s.data.toList.drop i).contains b = (decide (s.data.toList[i] = b) || (s.data.toList.drop (i + 1)).contains b) := by
  rw [List.drop_eq_getElem_cons h, List.contains_cons]
  congr 1
  by_cases h : s.data.toList[i] = b
  · rw [decide_eq_true h, h]; exact beq_self_eq_true b
  · rw [decide_eq_false h]; exact beq_eq_false_iff_ne.mpr (fun e => h e.symm)
theorem wordsR (n : Nat) : ∀ x : S24, cnt x ≤ n → cnt x ≤ 500 → finD x → Ev (fun k => galleylaw17_words.f k x.f0 x.f1 x.f2 x.f3) (if okW x = true then (wordV x, true) else ((⟨#[]⟩ : ByteArray), false)) := by
  induction n using Nat.strongRecOn with
  | _ n ih =>
  intro x hn h500 hx
  obtain ⟨hs, hm, hl⟩ := (finD_eq x).1 hx
  have hsz : x.f2.size = x.f2.data.toList.length := by rw [Array.length_toList]; rfl
  have hcx := cnt_eq x
  have loop1 : ∀ d i : Nat, ∀ a : ByteArray, x.f3.length - i = d → i ≤ x.f3.length → a.size + 100 * cntL (x.f3.drop i) ≤ 1000000 → Ev (fun k => galleylaw17_words.l1 k a (i : Int) x.f0 x.f1 x.f2 x.f3) (if okWL (x.f3.drop i) = true then (a ++ wordL (x.f3.drop i), true) else ((⟨#[]⟩ : ByteArray), false)) := by
    intro d
    induction d with
    | zero =>
      intro i a hd hi ha
      rw [List.drop_eq_nil_of_le (by omega), if_pos (show okWL [] = true from rfl)]
      refine Ev.step (f := fun _ => some (a, true)) (fun k => by simp only [galleylaw17_words.l1]; rw [if_neg (by omega)]) ?_
      rw [wordL, ba_append_nil]
      exact Ev.now _
    | succ d ihd =>
      intro i a hd hi ha
      have hil : i < x.f3.length := by omega
      have hw := wordV_size _ (finD_child hx i hil)
      rw [cntL_drop x.f3 i hil] at ha
      have hci := cnt_lt x i hil
      refine Ev.step (f := fun k => (galleylaw17_words.f k x.f3[i].f0 x.f3[i].f1 x.f3[i].f2 x.f3[i].f3).bind fun t => if t.2 = true then (if a.size + t.1.size ≤ 9223372036854775807 then galleylaw17_words.l1 k (a ++ t.1) ((i + 1 : Nat) : Int) x.f0 x.f1 x.f2 x.f3 else none) else some ((⟨#[]⟩ : ByteArray), false))
        (fun k => by simp only [galleylaw17_words.l1]; rw [if_pos (by omega), if_pos (by omega), rd24 _ _ hil, wrap_next hil (by omega)]) ?_
      refine Ev.bind (ih (cnt x.f3[i]) (Nat.lt_of_lt_of_le (cnt_lt x i hil) hn) x.f3[i] (Nat.le_refl _) (by omega) (finD_child hx i hil)) ?_
      rw [okWL_drop x.f3 i hil, wordL_drop x.f3 i hil]
      cases ho : okW x.f3[i]
      · rw [if_neg (show ¬ (false = true) by decide), Bool.false_and, if_neg (show ¬ (false = true) by decide)]
        exact Ev.no (fun h => by cases h) (Ev.now _)
      · rw [if_pos rfl, Bool.true_and]
        refine Ev.yes rfl (Ev.yes (by simp only; omega) ?_)
        rw [← ba_assoc]
        exact ihd (i + 1) (a ++ wordV x.f3[i]) (by omega) (by omega) (by rw [ba_size]; omega)
  have loop0 : ∀ d i : Nat, x.f2.data.toList.length - i = d → i ≤ x.f2.data.toList.length → Ev (fun k => galleylaw17_words.l0 k x.f2 (i : Int) x.f0 x.f1 x.f2 x.f3) (if (x.f2.data.toList.drop i).contains 32 = true then ((⟨#[]⟩ : ByteArray), false) else if okWL x.f3 = true then (x.f2 ++ wordL x.f3, true) else ((⟨#[]⟩ : ByteArray), false)) := by
    intro d
    induction d with
    | zero =>
      intro i hd hi
      rw [List.drop_eq_nil_of_le (by omega), if_neg (by decide)]
      have h := loop1 x.f3.length 0 x.f2 (by omega) (by omega) (by rw [List.drop_zero]; omega)
      rw [List.drop_zero] at h
      exact Ev.step (fun k => by simp only [galleylaw17_words.l0]; rw [if_neg (by omega)]; rfl) h
    | succ d ihd =>
      intro i hd hi
      have hil : i < x.f2.data.toList.length := by omega
      rw [hasB_drop 32 x.f2 i hil]
      by_cases hc : x.f2.data.toList[i] = 32
      · rw [decide_eq_true hc]
        exact Ev.step (f := fun _ => some ((⟨#[]⟩ : ByteArray), false)) (fun k => by simp only [galleylaw17_words.l0]; rw [if_pos (by omega), if_pos (by omega), bt_nat _ _ hil, if_pos (by rw [hc]; rfl)]) (Ev.now _)
      · rw [decide_eq_false hc, Bool.false_or]
        have hc' : ¬ ((x.f2.data.toList[i].toNat : Int) = 32) := by
          intro h
          exact hc (UInt8.toNat_inj.1 (by show x.f2.data.toList[i].toNat = 32; omega))
        exact Ev.step (fun k => by simp only [galleylaw17_words.l0]; rw [if_pos (by omega), if_pos (by omega), bt_nat _ _ hil, if_neg hc', wrap_next hil (by omega)]) (ihd (i + 1) (by omega) (by omega))
  have h := loop0 x.f2.data.toList.length 0 (by omega) (by omega)
  rw [List.drop_zero] at h
  have e : (if okW x = true then (wordV x, true) else ((⟨#[]⟩ : ByteArray), false)) = (if x.f2.data.toList.contains 32 = true then ((⟨#[]⟩ : ByteArray), false) else if okWL x.f3 = true then (x.f2 ++ wordL x.f3, true) else ((⟨#[]⟩ : ByteArray), false)) := by
    rw [okW_eq, wordV_eq]
    unfold hasB
    cases x.f2.data.toList.contains 32 <;> simp
  rw [e]
  exact Ev.step (f := fun k => galleylaw17_words.l0 k x.f2 ((0 : Nat) : Int) x.f0 x.f1 x.f2 x.f3) (fun k => by simp only [galleylaw17_words.f]; rfl) h
/-! ### flat -/
mutual
def flatV : S24 → ByteArray
  | ⟨k, _, s, l⟩ => if k = 1 then s else if k = 2 then ⟨#[32]⟩ else flatL l
def flatL : List S24 → ByteArray
  | [] => ⟨#[]⟩
  | x :: r => flatV x ++ flatL r
end
theorem flatV_eq (x : S24) : flatV x = if x.f0 = 1 then x.f2 else if x.f0 = 2 then ⟨#[32]⟩ else flatL x.f3 := by cases x; rfl
theorem flatL_drop (l : List S24) (i : Nat) (h : i < l.length) : flatL (l.drop i) = flatV l[i] ++ flatL (l.drop (i + 1)) := by rw [List.drop_eq_getElem_cons h]; rfl
mutual
theorem flatV_size : ∀ (x : S24), finD x → (flatV x).size ≤ 100 * cnt x
  | ⟨k, n, s, l⟩, h => by
    have h1 := flatL_size l h.2.2
    have h3 : s.size ≤ 100 := h.1
    have h4 : (⟨#[32]⟩ : ByteArray).size = 1 := rfl
    simp only [flatV, cnt]
    repeat' split
    all_goals omega
theorem flatL_size : ∀ (l : List S24), finDL l → (flatL l).size ≤ 100 * cntL l
  | [], _ => by simp [flatL, cntL]; rfl
  | x :: r, h => by
    have h1 := flatV_size x h.1
    have h2 := flatL_size r h.2
    simp only [flatL, cntL, ba_size]
    omega
end
theorem flatR (n : Nat) : ∀ x : S24, cnt x ≤ n → cnt x ≤ 500 → finD x → Ev (fun k => galleyref15_flat.f k x.f0 x.f1 x.f2 x.f3) (flatV x) := by
  induction n using Nat.strongRecOn with
  | _ n ih =>
  intro x hn h500 hx
  obtain ⟨hs, hm, hl⟩ := (finD_eq x).1 hx
  have hcx := cnt_eq x
  have loop : ∀ d i : Nat, ∀ a : ByteArray, x.f3.length - i = d → i ≤ x.f3.length → a.size + 100 * cntL (x.f3.drop i) ≤ 1000000 → Ev (fun k => galleyref15_flat.l0 k a (i : Int) x.f0 x.f1 x.f2 x.f3) (a ++ flatL (x.f3.drop i)) := by
    intro d
    induction d with
    | zero =>
      intro i a hd hi ha
      rw [List.drop_eq_nil_of_le (by omega), flatL, ba_append_nil]
      exact Ev.step (f := fun _ => some a) (fun k => by simp only [galleyref15_flat.l0]; rw [if_neg (by omega)]) (Ev.now _)
    | succ d ihd =>
      intro i a hd hi ha
      have hil : i < x.f3.length := by omega
      have hw := flatV_size _ (finD_child hx i hil)
      rw [cntL_drop x.f3 i hil] at ha
      have hci := cnt_lt x i hil
      refine Ev.step (f := fun k => (galleyref15_flat.f k x.f3[i].f0 x.f3[i].f1 x.f3[i].f2 x.f3[i].f3).bind fun t => if a.size + t.size ≤ 9223372036854775807 then galleyref15_flat.l0 k (a ++ t) ((i + 1 : Nat) : Int) x.f0 x.f1 x.f2 x.f3 else none)
        (fun k => by simp only [galleyref15_flat.l0]; rw [if_pos (by omega), if_pos (by omega), rd24 _ _ hil, wrap_next hil (by omega)]) ?_
      refine Ev.bind (ih (cnt x.f3[i]) (Nat.lt_of_lt_of_le (cnt_lt x i hil) hn) x.f3[i] (Nat.le_refl _) (by omega) (finD_child hx i hil)) ?_
      refine Ev.yes (by omega) ?_
      rw [flatL_drop x.f3 i hil, ← ba_assoc]
      exact ihd (i + 1) (a ++ flatV x.f3[i]) (by omega) (by omega) (by rw [ba_size]; omega)
  rw [flatV_eq]
  by_cases c1 : x.f0 = 1
  · rw [if_pos c1]; exact Ev.step (fun k => by simp only [galleyref15_flat.f]; rw [if_pos c1]) (Ev.now _)
  by_cases c2 : x.f0 = 2
  · rw [if_neg c1, if_pos c2]; exact Ev.step (fun k => by simp only [galleyref15_flat.f]; rw [if_neg c1, if_pos c2]) (Ev.now _)
  rw [if_neg c1, if_neg c2]
  have h := loop x.f3.length 0 (⟨#[]⟩ : ByteArray) (by omega) (by omega) (by rw [List.drop_zero]; show 0 + _ ≤ _; omega)
  rw [List.drop_zero, ba_nil_append] at h
  exact Ev.step (f := fun k => galleyref15_flat.l0 k (⟨#[]⟩ : ByteArray) ((0 : Nat) : Int) x.f0 x.f1 x.f2 x.f3) (fun k => by simp only [galleyref15_flat.f]; rw [if_neg c1, if_neg c2]; rfl) h
theorem FlatR (x : S24) (h500 : cnt x ≤ 500) (hx : finD x) : Ev (fun k => galleyref15_Flat.f k x.f0 x.f1 x.f2 x.f3) (if frcB x = true then ((⟨#[]⟩ : ByteArray), false) else (flatV x, true)) := by
  refine Ev.bind (frcR _ x (Nat.le_refl _) hx) ?_
  cases frcB x
  · exact Ev.no (by decide) (Ev.bind (flatR _ x (Nat.le_refl _) h500 hx) (Ev.now _))
  · exact Ev.yes rfl (Ev.now _)
/-! ### widths -/
theorem leaf_wd {x : S24} (h : ownB x = true) (hk : x.f0 = 1 ∨ x.f0 = 2) : wdV x = if x.f0 = 1 then (cw x.f2 : Int) else 1 := by
  have hl : x.f3 = [] := by
    unfold ownB at h
    rcases hk with hk | hk
    · rw [if_pos hk] at h
      simp only [Bool.and_eq_true, List.isEmpty_iff] at h
      exact h.1.2
    · rw [if_neg (by omega), if_pos (by omega)] at h
      simp only [Bool.and_eq_true, List.isEmpty_iff] at h
      exact h.2
  rw [wdV_eq, hl, wdL, Int.add_zero, own1]
  rcases hk with hk | hk <;> simp [hk]
theorem wdL_drop (l : List S24) (i : Nat) (h : i < l.length) : wdL (l.drop i) = wdV l[i] + wdL (l.drop (i + 1)) := by rw [List.drop_eq_getElem_cons h]; rfl
theorem allOwnL_at {l : List S24} (h : allOwnL l = true) (i : Nat) (hi : i < l.length) : allOwn l[i] = true := by
  induction l generalizing i with
  | nil => simp at hi
  | cons y r ihr =>
    rw [allOwnL, Bool.and_eq_true] at h
    cases i with
    | zero => exact h.1
    | succ i => exact ihr h.2 i (by simpa using hi)
theorem finDL_drop : ∀ (l : List S24) (i : Nat), finDL l → finDL (l.drop i)
  | [], i, h => by rw [List.drop_nil]; exact h
  | x :: r, 0, h => h
  | x :: r, i + 1, h => finDL_drop r i h.2
theorem widthR (n : Nat) : ∀ x : S24, cnt x ≤ n → cnt x ≤ 500 → finD x → allOwn x = true → Ev (fun k => galleyref15_Width.f k x.f0 x.f1 x.f2 x.f3) (wdV x) := by
  induction n using Nat.strongRecOn with
  | _ n ih =>
  intro x hn h500 hx ho
  rw [allOwn_eq, Bool.and_eq_true] at ho
  obtain ⟨hs, hm, hl⟩ := (finD_eq x).1 hx
  have hcx := cnt_eq x
  have loop : ∀ d i : Nat, ∀ a : Int, x.f3.length - i = d → i ≤ x.f3.length → 0 ≤ a → a + 101 * cntL (x.f3.drop i) ≤ 1000000 → Ev (fun k => galleyref15_Width.l0 k a (i : Int) x.f0 x.f1 x.f2 x.f3) (a + wdL (x.f3.drop i)) := by
    intro d
    induction d with
    | zero =>
      intro i a hd hi h0 ha
      rw [List.drop_eq_nil_of_le (by omega), wdL, Int.add_zero]
      exact Ev.step (f := fun _ => some a) (fun k => by simp only [galleyref15_Width.l0]; rw [if_neg (by omega)]) (Ev.now _)
    | succ d ihd =>
      intro i a hd hi h0 ha
      have hil : i < x.f3.length := by omega
      have hw := wdV_le _ (finD_child hx i hil)
      rw [cntL_drop x.f3 i hil] at ha
      have hci := cnt_lt x i hil
      refine Ev.step (f := fun k => (galleyref15_Width.f k x.f3[i].f0 x.f3[i].f1 x.f3[i].f2 x.f3[i].f3).bind fun t => galleyref15_Width.l0 k (wrap64 (a + t)) ((i + 1 : Nat) : Int) x.f0 x.f1 x.f2 x.f3)
        (fun k => by simp only [galleyref15_Width.l0]; rw [if_pos (by omega), if_pos (by omega), rd24 _ _ hil, wrap_next hil (by omega)]) ?_
      refine Ev.bind (ih (cnt x.f3[i]) (Nat.lt_of_lt_of_le (cnt_lt x i hil) hn) x.f3[i] (Nat.le_refl _) (by omega) (finD_child hx i hil) (allOwnL_at ho.2 i hil)) ?_
      rw [wdL_drop x.f3 i hil, ← Int.add_assoc, show wrap64 (a + wdV x.f3[i]) = a + wdV x.f3[i] by unfold wrap64; omega]
      exact ihd (i + 1) (a + wdV x.f3[i]) (by omega) (by omega) (by omega) (by omega)
  by_cases c1 : x.f0 = 1
  · rw [leaf_wd ho.1 (Or.inl c1), if_pos c1]
    exact Ev.step (f := fun k => (galleyref1_Count.f k x.f2).bind fun t => some t) (fun k => by simp only [galleyref15_Width.f]; rw [if_pos c1]) (Ev.bind (countR x.f2 (by omega)) (Ev.now _))
  by_cases c2 : x.f0 = 2
  · rw [leaf_wd ho.1 (Or.inr c2), if_neg c1]
    exact Ev.step (fun k => by simp only [galleyref15_Width.f]; rw [if_neg c1, if_pos c2]) (Ev.now _)
  have h := loop x.f3.length 0 0 (by omega) (by omega) (by omega) (by rw [List.drop_zero]; omega)
  rw [List.drop_zero, Int.zero_add] at h
  rw [wdV_eq, own1, if_neg c1, if_neg c2, Int.zero_add]
  exact Ev.step (f := fun k => galleyref15_Width.l0 k 0 ((0 : Nat) : Int) x.f0 x.f1 x.f2 x.f3) (fun k => by simp only [galleyref15_Width.f]; rw [if_neg c1, if_neg c2]; rfl) h
/-! ### fronts -/
theorem ldL_stop : ∀ (l : List S24) (n : Int), ldL l (n, true) = (n, true)
  | [], _ => rfl
  | x :: r, n => by rw [ldL, if_pos rfl]; exact ldL_stop r n
theorem leaf_ld {x : S24} (h : ownB x = true) (hk : x.f0 = 1 ∨ x.f0 = 2 ∨ x.f0 = 3 ∨ x.f0 = 4) : ldV x = lead0 x.f0 x.f2 := by
  have hl : x.f3 = [] := by
    unfold ownB at h
    by_cases h1 : x.f0 = 1
    · rw [if_pos h1] at h
      simp only [Bool.and_eq_true, List.isEmpty_iff] at h
      exact h.1.2
    · rw [if_neg h1, if_pos (by omega)] at h
      simp only [Bool.and_eq_true, List.isEmpty_iff] at h
      exact h.2
  rw [ldV_eq, hl]
  rfl
theorem ldL_drop (l : List S24) (i : Nat) (h : i < l.length) (p : Int × Bool) : ldL (l.drop i) p = ldL (l.drop (i + 1)) (if p.2 = true then p else (p.1 + (ldV l[i]).1, (ldV l[i]).2)) := by rw [List.drop_eq_getElem_cons h]; rfl
/-- The loop of front over a row. -/
theorem front_loop (k0 k1 : Int) (s : ByteArray) (l : List S24) (hl : finDL l) (hm : l.length ≤ 500) (hf : ∀ i (h : i < l.length), Ev (fun k => galleyref15_front.f k l[i].f0 l[i].f1 l[i].f2 l[i].f3) (ldV l[i])) :
    ∀ d i : Nat, ∀ a : Int, l.length - i = d → i ≤ l.length → 0 ≤ a → a + 101 * cntL (l.drop i) ≤ 1000000 → Ev (fun k => galleyref15_front.l0 k a (i : Int) k0 k1 s l) (ldL (l.drop i) (a, false)) := by
  intro d
  induction d with
  | zero =>
    intro i a hd hi h0 ha
    rw [List.drop_eq_nil_of_le (by omega)]
    exact Ev.step (f := fun _ => some (a, false)) (fun k => by simp only [galleyref15_front.l0]; rw [if_neg (by omega)]) (Ev.now _)
  | succ d ihd =>
    intro i a hd hi h0 ha
    have hil : i < l.length := by omega
    have hw := ldV_le _ (finDL_get l hl i hil)
    rw [cntL_drop l i hil] at ha
    refine Ev.step (f := fun k => (galleyref15_front.f k l[i].f0 l[i].f1 l[i].f2 l[i].f3).bind fun t => if t.2 = true then some (wrap64 (a + t.1), true) else galleyref15_front.l0 k (wrap64 (a + t.1)) ((i + 1 : Nat) : Int) k0 k1 s l)
      (fun k => by simp only [galleyref15_front.l0]; rw [if_pos (by omega), if_pos (by omega), rd24 _ _ hil, wrap_next hil (by omega)]) ?_
    refine Ev.bind (hf i hil) ?_
    rw [ldL_drop l i hil, if_neg (show ¬ ((a, false) : Int × Bool).2 = true from fun h => by cases h)]
    have e : wrap64 (a + (ldV l[i]).1) = a + (ldV l[i]).1 := by unfold wrap64; omega
    simp only [e]
    cases h2 : (ldV l[i]).2
    · exact Ev.no (by decide) (ihd (i + 1) (a + (ldV l[i]).1) (by omega) (by omega) (by omega) (by omega))
    · rw [ldL_stop]
      exact Ev.yes rfl (Ev.now _)
theorem frontR (n : Nat) : ∀ x : S24, cnt x ≤ n → cnt x ≤ 500 → finD x → allOwn x = true → Ev (fun k => galleyref15_front.f k x.f0 x.f1 x.f2 x.f3) (ldV x) := by
  induction n using Nat.strongRecOn with
  | _ n ih =>
  intro x hn h500 hx ho
  rw [allOwn_eq, Bool.and_eq_true] at ho
  obtain ⟨hs, hm, hl⟩ := (finD_eq x).1 hx
  have hcx := cnt_eq x
  by_cases c1 : x.f0 = 1
  · rw [leaf_ld ho.1 (Or.inl c1), lead0, if_pos c1]
    exact Ev.step (f := fun k => (galleyref1_Count.f k x.f2).bind fun t => some (t, false)) (fun k => by simp only [galleyref15_front.f]; rw [if_pos c1]) (Ev.bind (countR x.f2 (by omega)) (Ev.now _))
  by_cases c2 : x.f0 = 2
  · rw [leaf_ld ho.1 (by omega), lead0, if_neg c1, if_pos c2]
    exact Ev.step (fun k => by simp only [galleyref15_front.f]; rw [if_neg c1, if_pos c2]) (Ev.now _)
  by_cases c3 : x.f0 = 3
  · rw [leaf_ld ho.1 (by omega), lead0, if_neg c1, if_neg c2, if_pos c3]
    exact Ev.step (fun k => by simp only [galleyref15_front.f]; rw [if_neg c1, if_neg c2, if_pos c3]) (Ev.now _)
  by_cases c4 : x.f0 = 4
  · rw [leaf_ld ho.1 (by omega), lead0, if_neg c1, if_neg c2, if_neg c3, if_pos c4]
    exact Ev.step (fun k => by simp only [galleyref15_front.f]; rw [if_neg c1, if_neg c2, if_neg c3, if_pos c4]) (Ev.now _)
  have h := front_loop x.f0 x.f1 x.f2 x.f3 hl hm (fun i hil => ih (cnt x.f3[i]) (Nat.lt_of_lt_of_le (cnt_lt x i hil) hn) x.f3[i] (Nat.le_refl _) (by have := cnt_lt x i hil; omega) (finD_child hx i hil) (allOwnL_at ho.2 i hil)) x.f3.length 0 0 (by omega) (by omega) (by omega) (by rw [List.drop_zero]; omega)
  rw [List.drop_zero] at h
  rw [ldV_eq, lead0, if_neg c1, if_neg c2, if_neg c3, if_neg c4]
  exact Ev.step (f := fun k => galleyref15_front.l0 k 0 ((0 : Nat) : Int) x.f0 x.f1 x.f2 x.f3) (fun k => by simp only [galleyref15_front.f]; rw [if_neg c1, if_neg c2, if_neg c3, if_neg c4]; rfl) h
/-- First of a row. -/
theorem firstR (l : List S24) (hl : finDL l) (hc : cntL l ≤ 1000) (hm : l.length ≤ 500) (ho : allOwnL l = true) (h5 : ∀ x ∈ l, cnt x ≤ 500) : Ev (fun k => galleyref15_First.f k l) (ldL l (0, false)).1 := by
  have h := front_loop 5 0 (⟨#[]⟩ : ByteArray) l hl hm (fun i hil => frontR _ l[i] (Nat.le_refl _) (h5 _ (List.getElem_mem hil)) (finDL_get l hl i hil) (allOwnL_at ho i hil)) l.length 0 0 (by omega) (by omega) (by omega) (by rw [List.drop_zero]; omega)
  rw [List.drop_zero] at h
  refine Ev.bind (Ev.step (f := fun k => galleyref15_front.l0 k 0 ((0 : Nat) : Int) 5 0 (⟨#[]⟩ : ByteArray) l) (fun k => by simp only [galleyref15_front.f]; rfl) h) (Ev.now _)
end Go.Proofs.Ytigihiggpfjbjaa.PR

/- Plain: a run stays within bounds; what is written but blanks and newlines are the texts. -/
namespace Go.Proofs.Ytigihiggpfjbjaa.PR
open Go.RowKit Go.Proofs.YtigihiggpfjbjaaW.PrintWords Go.Proofs.YtigihiggpfjbjaaW.PrintLast Go.Proofs.YtigihiggpfjbjaaW.PrintMore
set_option linter.unusedVariables false
set_option linter.unusedSimpArgs false
def mkK (l : List S24) (n : Int) (f : Bool) : List It := l.map fun y => ⟨0, y, n, f⟩
theorem mkK_x (l : List S24) (n : Int) (f : Bool) : (mkK l n f).map It.x = l := by
  unfold mkK
  rw [List.map_map]
  exact List.map_id'' (fun _ => rfl) l
theorem mkK_nf (l : List S24) (n : Int) (f : Bool) : ∀ k ∈ mkK l n f, k.n = n ∧ k.f = f := fun k hk => by
  unfold mkK at hk
  obtain ⟨y, _, rfl⟩ := List.mem_map.1 hk
  exact ⟨rfl, rfl⟩
/-- A run comes to its end within bounds. -/
theorem run_good (wd : Int) (n : Nat) : ∀ (its : List It) (S : St) (d : Nat), cntI its ≤ n → Good d its S → ∃ d', Good d' [] (runIt wd its.reverse S) := by
  induction n using Nat.strongRecOn with
  | _ n ih =>
  intro its S d hn hg
  rcases List.eq_nil_or_concat its with rfl | ⟨its0, it, rfl⟩
  · exact ⟨d, hg⟩
  · rw [List.concat_eq_append] at hn hg ⊢
    have hK1 := mkK_x (takeP wd it.x it.n it.f (frV its0.reverse) S).2.1 (takeP wd it.x it.n it.f (frV its0.reverse) S).2.2.1 (takeP wd it.x it.n it.f (frV its0.reverse) S).2.2.2
    have hK2 := mkK_nf (takeP wd it.x it.n it.f (frV its0.reverse) S).2.1 (takeP wd it.x it.n it.f (frV its0.reverse) S).2.2.1 (takeP wd it.x it.n it.f (frV its0.reverse) S).2.2.2
    generalize mkK _ _ _ = K at hK1 hK2
    have hg2 := good_take hg hK1 hK2
    have hr := runIt_take wd it its0.reverse K S hK1 hK2
    have hc := take_cnt wd it.x it.n it.f (frV its0.reverse) S
    have hc2 : cntI (its0 ++ K.reverse) < cntI (its0 ++ [it]) := by
      rw [cntI_append, cntI_append, cntI_reverse, cntI_map K, hK1]
      simp only [cntI]
      omega
    obtain ⟨d', hd'⟩ := ih _ (Nat.lt_of_lt_of_le hc2 hn) (its0 ++ K.reverse) _ (d + 1) (Nat.le_refl _) hg2
    refine ⟨d', ?_⟩
    rw [List.reverse_append, List.reverse_reverse, hr] at hd'
    rw [List.reverse_append]
    exact hd'
theorem start_good {x : S24} (hf : finD x) (hc : cnt x ≤ 1100) (ho : allOwn x = true) : Good 0 [⟨0, x, 0, false⟩] S00 :=
  ⟨fun it hi => by rw [List.mem_singleton.1 hi]; exact ⟨hf, ho, Int.le_refl _, by show (0 : Int) ≤ 1000 * ((0 : Nat) : Int); decide⟩, by simp only [cntI]; omega, by decide, by decide, by decide, by decide, by decide⟩
theorem renS_good {x : S24} (wd : Int) (hf : finD x) (hc : cnt x ≤ 1100) (ho : allOwn x = true) : (renS x wd).out.length ≤ 2000000000 ∧ (renS x wd).modes.length ≤ 1100 := by
  obtain ⟨d, h⟩ := run_good wd _ _ _ 0 (Nat.le_refl _) (start_good hf hc ho)
  have h1 := h.sum
  have h2 := h.out
  have h3 := h.modes
  have e : runIt wd [⟨0, x, 0, false⟩].reverse S00 = renS x wd := rfl
  rw [e] at h2 h3
  simp only [cntI] at h1
  omega
theorem mayB_own {x : S24} (h : mayB x = true) : allOwn x = true := by
  unfold mayB at h
  rw [Bool.and_eq_true, Bool.and_eq_true] at h
  exact h.1.1
theorem strOf_size (l : List Int) : (strOf l).size = l.length := by
  show (strOf l).data.size = _
  rw [strOf_data]
  simp
theorem renT_size {x : S24} (wd : Int) (hf : finD x) (hc : cnt x ≤ 1100) : (renT x wd).size ≤ 2000000000 := by
  unfold renT
  split
  · rename_i h
    rw [strOf_size]
    exact (renS_good wd hf hc (mayB_own ((okR_iff x wd).1 h).2.2)).1
  · show 0 ≤ 2000000000
    omega
theorem renM_len {x : S24} (wd : Int) (hf : finD x) (hc : cnt x ≤ 1100) : (renM x wd).length ≤ 1100 := by
  unfold renM
  split
  · rename_i h
    exact (renS_good wd hf hc (mayB_own ((okR_iff x wd).1 h).2.2)).2
  · exact Nat.zero_le _
theorem bytesOf_strOf {l : List Int} (h : isB l) : bytesOf (strOf l) = l := by
  unfold bytesOf
  rw [strOf_data]
  simp only [List.map_map]
  have e : ∀ l : List Int, isB l → List.map ((fun b : UInt8 => (b.toNat : Int)) ∘ fun n : Int => UInt8.ofNat n.toNat) l = l := fun l => by
    induction l with
    | nil => intro _; rfl
    | cons a r ih =>
      intro h
      rw [List.map_cons, ih (fun b hb => h b (List.mem_cons_of_mem _ hb))]
      have ha := h a List.mem_cons_self
      congr 1
      simp only [Function.comp, UInt8.toNat_ofNat']
      omega
  exact e l h
theorem strOf_bytesOf (s : ByteArray) : strOf (bytesOf s) = s := by
  apply ByteArray.ext
  rw [strOf_data]
  unfold bytesOf
  rw [List.map_map]
  have e : ∀ l : List UInt8, List.map ((fun n : Int => UInt8.ofNat n.toNat) ∘ fun b : UInt8 => (b.toNat : Int)) l = l := fun l => by
    induction l with
    | nil => rfl
    | cons a r ih =>
      rw [List.map_cons, ih]
      congr 1
      simp [Function.comp]
  rw [e]
/-! ### texts -/
def keep (b : Int) : Bool := decide (b ≠ 32) && decide (b ≠ 10)
theorem keep_all (s : ByteArray) (h1 : hasB 32 s = false) (h2 : has10 s = false) : (bytesOf s).filter keep = bytesOf s := by
  rw [List.filter_eq_self]
  intro b hb
  unfold bytesOf at hb
  obtain ⟨u, hu, rfl⟩ := List.mem_map.1 hb
  unfold keep
  have k1 : u ≠ 32 := fun e => by
    unfold hasB at h1
    rw [List.contains_iff_mem.2 (e ▸ hu)] at h1
    cases h1
  have k2 : u ≠ 10 := fun e => by
    unfold has10 at h2
    rw [List.contains_iff_mem.2 (e ▸ hu)] at h2
    cases h2
  rw [Bool.and_eq_true, decide_eq_true_eq, decide_eq_true_eq]
  exact ⟨fun e => k1 (UInt8.toNat_inj.1 (by show u.toNat = 32; omega)), fun e => k2 (UInt8.toNat_inj.1 (by show u.toNat = 10; omega))⟩
theorem keep_rep (n : Nat) : (List.replicate n (32 : Int)).filter keep = [] := by
  rw [List.filter_eq_nil_iff]
  intro b hb
  rw [List.eq_of_mem_replicate hb]
  decide
theorem own_text {x : S24} (h : ownB x = true) : (x.f0 = 1 ∧ has10 x.f2 = false) ∨ (x.f0 ≠ 1 ∧ x.f2 = (⟨#[]⟩ : ByteArray)) := by
  unfold ownB at h
  by_cases h1 : x.f0 = 1
  · rw [if_pos h1] at h
    simp only [Bool.and_eq_true, Bool.not_eq_true'] at h
    exact Or.inl ⟨h1, h.2⟩
  · refine Or.inr ⟨h1, emp_of_isEmpty ?_⟩
    rw [if_neg h1] at h
    by_cases h2 : x.f0 = 2 ∨ x.f0 = 3 ∨ x.f0 = 4
    · rw [if_pos h2] at h
      simp only [Bool.and_eq_true] at h
      exact h.1.1
    · rw [if_neg h2] at h
      by_cases h5 : x.f0 = 5
      · rw [if_pos h5] at h
        simp only [Bool.and_eq_true] at h
        exact h.1
      · rw [if_neg h5] at h
        by_cases h6 : x.f0 = 6
        · rw [if_pos h6] at h
          simp only [Bool.and_eq_true] at h
          exact h.1.1
        · rw [if_neg h6] at h
          by_cases h7 : x.f0 = 7
          · rw [if_pos h7] at h
            simp only [Bool.and_eq_true] at h
            exact h.1
          · rw [if_neg h7] at h
            exact absurd h (by decide)
theorem textP_keep (s : ByteArray) (n : Int) (S : St) : (textP s n S).out.filter keep = S.out.filter keep ++ (bytesOf s).filter keep := by
  unfold textP
  split
  · rename_i h
    rw [emp_of_isEmpty h, bytesOf_nil, List.filter_nil, List.append_nil]
  · simp only [List.filter_append, keep_rep, List.append_nil]
theorem lineP_keep (n : Int) (S : St) : (lineP n S).out.filter keep = S.out.filter keep := by
  unfold lineP
  simp only [List.filter_append]
  rw [show [(10 : Int)].filter keep = [] from rfl, List.append_nil]
mutual
theorem rend_keep (wd : Int) : ∀ (x : S24) (n : Int) (f : Bool) (fr : Int) (S : St), allOwn x = true → okW x = true → (rend wd x n f fr S).out.filter keep = S.out.filter keep ++ bytesOf (wordV x)
  | ⟨k, m, s, l⟩, n, f, fr, S, ho, hw => by
    rw [allOwn_eq, Bool.and_eq_true] at ho
    rw [okW_eq, Bool.and_eq_true, Bool.not_eq_true'] at hw
    have ht := own_text ho.1
    simp only at ht hw ho
    unfold rend
    rw [wordV_eq, bytesOf_append]
    simp only
    split
    · rename_i hk
      have hl := (own_leaf ho.1 (Or.inl hk)).1
      simp only at hl
      rcases ht with ht | ht
      · rw [textP_keep, keep_all s hw.1 ht.2, hl]
        simp [wordL, bytesOf_nil]
      · exact absurd hk ht.1
    · rename_i hk1
      have hs : s = (⟨#[]⟩ : ByteArray) := by
        rcases ht with ht | ht
        · exact absurd ht.1 hk1
        · exact ht.2
      rw [hs, bytesOf_nil, List.nil_append]
      split
      · rename_i hk
        have hl := (own_leaf ho.1 (Or.inr hk)).1
        simp only at hl
        rw [hl, wordL, bytesOf_nil, List.append_nil]
        split
        · exact lineP_keep _ _
        · split
          · rw [textP_keep]
            rw [show (bytesOf (⟨#[32]⟩ : ByteArray)).filter keep = [] from rfl, List.append_nil]
          · rfl
      · split
        · exact rendL_keep wd l _ _ _ _ ho.2 hw.2
        · exact rendL_keep wd l _ _ _ _ ho.2 hw.2
theorem rendL_keep (wd : Int) : ∀ (l : List S24) (n : Int) (f : Bool) (fr : Int) (S : St), allOwnL l = true → okWL l = true → (rendL wd l n f fr S).out.filter keep = S.out.filter keep ++ bytesOf (wordL l)
  | [], _, _, _, S, _, _ => by
    unfold rendL
    rw [wordL, bytesOf_nil, List.append_nil]
  | x :: r, n, f, fr, S, ho, hw => by
    rw [allOwnL, Bool.and_eq_true] at ho
    rw [okWL, Bool.and_eq_true] at hw
    unfold rendL
    rw [rendL_keep wd r n f fr _ ho.2 hw.2, rend_keep wd x n f _ S ho.1 hw.1, wordL, bytesOf_append, List.append_assoc]
end
/-- A layout has all texts, in their order. -/
theorem texts_law {x : S24} {wd : Int} (hm : mayB x = true) (h1 : 1 ≤ wd) (h2 : wd ≤ 10000) (hw : okW x = true) : strOf ((bytesOf (renT x wd)).filter keep) = wordV x := by
  unfold renT
  rw [if_pos ((okR_iff x wd).2 ⟨h1, h2, hm⟩), bytesOf_strOf (renS_isB x wd)]
  unfold renS
  rw [rend_keep wd x 0 false 0 S00 (mayB_own hm) hw]
  exact strOf_bytesOf _
end Go.Proofs.Ytigihiggpfjbjaa.PR

/- Rows of documents, just made; told. -/
namespace Go.Proofs.Ytigihiggpfjbjaa.PR
open Go.RowKit Go.Proofs.YtigihiggpfjbjaaW.PrintWords Go.Proofs.YtigihiggpfjbjaaW.PrintLast Go.Proofs.YtigihiggpfjbjaaW.PrintMore
set_option linter.unusedVariables false
set_option linter.unusedSimpArgs false
theorem C_of_block {α : Type} {d : Kd α} {w : World} {g : Nat} {xs : List α} {inner : List Value} {t : TypeId} (hb : w.heap[g]? = some (.cells inner.toArray t (0, 0))) (hr : Reps (d.K w) d.sz xs inner) (hm : xs.length ≤ 9223372036854775807) : d.C w (some ⟨g, 0, none⟩) xs.length xs := by
  refine ⟨rfl, hm, fun hn => ⟨⟨g, 0, none⟩, rfl, fun j p hj => ⟨_, ?_, hr.2 j p hj, fun i u hu => ?_⟩⟩⟩
  · have h1 := hr.1
    have hj' := (List.getElem?_eq_some_iff.1 hj).1
    have : (j + 1) * d.sz ≤ xs.length * d.sz := Nat.mul_le_mul_right _ hj'
    rw [Nat.add_mul] at this
    simp only [List.length_take, List.length_drop, h1]
    omega
  · rw [add_plain, blk_cell hb]
    have hi : i < ((inner.drop (j * d.sz)).take d.sz).length := (List.getElem?_eq_some_iff.1 hu).1
    have hi' : i < d.sz := by simp only [List.length_take] at hi; omega
    rw [List.getElem?_take_of_lt hi', List.getElem?_drop] at hu
    simpa using hu
theorem K24_of {w : World} (x : S24) {A3 : Option Addr} {c3 : Nat} (h : Dc w x A3 c3) : k24.K w x [.int .i64 x.f0, .int .i64 x.f1, .string x.f2, .slice A3 x.f3.length c3] := k24_mk w x h.l3 h.g3
theorem C_nil24 (w : World) : Kd.C k24 w none 0 [] := ⟨rfl, by omega, fun h => absurd h (Nat.lt_irrefl 0)⟩
/-- A row of one document. -/
theorem C24_one {w : World} {g : Nat} {x : S24} {A3 : Option Addr} {c3 : Nat} (hb : w.heap[g]? = some (.cells #[.int .i64 x.f0, .int .i64 x.f1, .string x.f2, .slice A3 x.f3.length c3] 24 (0, 0))) (h : Dc w x A3 c3) : Kd.C k24 w (some ⟨g, 0, none⟩) 1 [x] :=
  C_of_block (xs := [x]) (inner := [.int .i64 x.f0, .int .i64 x.f1, .string x.f2, .slice A3 x.f3.length c3]) hb ⟨rfl, fun j p hj => by
    cases j with
    | zero => have : x = p := by simpa using hj
              subst this; exact K24_of x h
    | succ j => simp at hj⟩ (by simp)
theorem C24_three {w : World} {g : Nat} {x y z : S24} {A3 B3 D3 : Option Addr} {c3 d3 e3 : Nat} (hb : w.heap[g]? = some (.cells #[.int .i64 x.f0, .int .i64 x.f1, .string x.f2, .slice A3 x.f3.length c3, .int .i64 y.f0, .int .i64 y.f1, .string y.f2, .slice B3 y.f3.length d3, .int .i64 z.f0, .int .i64 z.f1, .string z.f2, .slice D3 z.f3.length e3] 24 (0, 0)))
    (h : Dc w x A3 c3) (h' : Dc w y B3 d3) (h'' : Dc w z D3 e3) : Kd.C k24 w (some ⟨g, 0, none⟩) 3 [x, y, z] :=
  C_of_block (xs := [x, y, z]) (inner := [.int .i64 x.f0, .int .i64 x.f1, .string x.f2, .slice A3 x.f3.length c3, .int .i64 y.f0, .int .i64 y.f1, .string y.f2, .slice B3 y.f3.length d3, .int .i64 z.f0, .int .i64 z.f1, .string z.f2, .slice D3 z.f3.length e3]) hb ⟨rfl, fun j p hj => by
    match j with
    | 0 => have : x = p := by simpa using hj
           subst this; exact K24_of x h
    | 1 => have : y = p := by simpa using hj
           subst this; exact K24_of y h'
    | 2 => have : z = p := by simpa using hj
           subst this; exact K24_of z h''
    | j + 3 => simp at hj⟩ (by simp)
theorem C24_two {w : World} {g : Nat} {x y : S24} {A3 B3 : Option Addr} {c3 d3 : Nat} (hb : w.heap[g]? = some (.cells #[.int .i64 x.f0, .int .i64 x.f1, .string x.f2, .slice A3 x.f3.length c3, .int .i64 y.f0, .int .i64 y.f1, .string y.f2, .slice B3 y.f3.length d3] 24 (0, 0)))
    (h : Dc w x A3 c3) (h' : Dc w y B3 d3) : Kd.C k24 w (some ⟨g, 0, none⟩) 2 [x, y] :=
  C_of_block (xs := [x, y]) (inner := [.int .i64 x.f0, .int .i64 x.f1, .string x.f2, .slice A3 x.f3.length c3, .int .i64 y.f0, .int .i64 y.f1, .string y.f2, .slice B3 y.f3.length d3]) hb ⟨rfl, fun j p hj => by
    match j with
    | 0 => have : x = p := by simpa using hj
           subst this; exact K24_of x h
    | 1 => have : y = p := by simpa using hj
           subst this; exact K24_of y h'
    | j + 2 => simp at hj⟩ (by simp)
theorem Dc_nil {w : World} (x : S24) (h : x.f3 = []) : Dc w x none 0 := ⟨by rw [h]; exact C_nil24 w, by rw [h]; exact Nat.le_refl _⟩
def tA : S24 := ⟨1, 0, ⟨#[97]⟩, []⟩
def tB : S24 := ⟨1, 0, ⟨#[98]⟩, []⟩
def tL : S24 := ⟨2, 0, ⟨#[]⟩, []⟩
def tG : S24 := ⟨7, 0, ⟨#[]⟩, [tA, tL, tB]⟩
theorem tG_t3 : renT tG 3 = ⟨#[97, 32, 98]⟩ := by decide +kernel
theorem tG_t2 : renT tG 2 = ⟨#[97, 10, 98]⟩ := by decide +kernel
theorem tG_e : renE tG 3 = 0 ∧ renE tG 2 = 0 ∧ renE tG 0 = 1 := by decide +kernel
theorem tG_m : renM tG 3 = [true] := by decide +kernel
theorem tG_fin : finD tG := ⟨by decide, by decide, ⟨by decide, by decide, trivial⟩, ⟨by decide, by decide, trivial⟩, ⟨by decide, by decide, trivial⟩, trivial⟩
theorem tG_cnt : cnt tG ≤ 1100 := by decide +kernel
def tLit : Array Value := #[.int .i64 1, .int .i64 0, .string (⟨#[97]⟩ : ByteArray), .slice none 0 0, .int .i64 2, .int .i64 0, .string (⟨#[]⟩ : ByteArray), .slice none 0 0, .int .i64 1, .int .i64 0, .string (⟨#[98]⟩ : ByteArray), .slice none 0 0]
theorem tG_dc {w : World} {g : Nat} (h : w.heap[g]? = some (.cells tLit 24 (0, 0))) : Dc w tG (some ⟨g, 0, none⟩) 3 :=
  ⟨C24_three (x := tA) (y := tL) (z := tB) (A3 := none) (c3 := 0) (B3 := none) (d3 := 0) (D3 := none) (e3 := 0) h (Dc_nil tA rfl) (Dc_nil tL rfl) (Dc_nil tB rfl), Nat.le_refl _⟩
theorem told_facts (w : World) : Below w.heap.size w (((((w.alloc (.cells #[.int .i64 1, .int .i64 0, .string (⟨#[97]⟩ : ByteArray), .slice none 0 0] 24)).alloc (.cells #[.int .i64 1, .int .i64 0, .string (⟨#[98]⟩ : ByteArray), .slice none 0 0] 24)).alloc (.cells #[.int .i64 2, .int .i64 0, .string (⟨#[]⟩ : ByteArray), .slice none 0 0] 24)).alloc (.cells #[.int .i64 1, .int .i64 0, .string (⟨#[97]⟩ : ByteArray), .slice none 0 0, .int .i64 2, .int .i64 0, .string (⟨#[]⟩ : ByteArray), .slice none 0 0, .int .i64 1, .int .i64 0, .string (⟨#[98]⟩ : ByteArray), .slice none 0 0] 24)).alloc (.cells #[.int .i64 7, .int .i64 0, .string (⟨#[]⟩ : ByteArray), .slice (some ⟨w.heap.size + 1 + 1 + 1, 0, none⟩) 3 3] 24)) ∧ (((((w.alloc (.cells #[.int .i64 1, .int .i64 0, .string (⟨#[97]⟩ : ByteArray), .slice none 0 0] 24)).alloc (.cells #[.int .i64 1, .int .i64 0, .string (⟨#[98]⟩ : ByteArray), .slice none 0 0] 24)).alloc (.cells #[.int .i64 2, .int .i64 0, .string (⟨#[]⟩ : ByteArray), .slice none 0 0] 24)).alloc (.cells #[.int .i64 1, .int .i64 0, .string (⟨#[97]⟩ : ByteArray), .slice none 0 0, .int .i64 2, .int .i64 0, .string (⟨#[]⟩ : ByteArray), .slice none 0 0, .int .i64 1, .int .i64 0, .string (⟨#[98]⟩ : ByteArray), .slice none 0 0] 24)).alloc (.cells #[.int .i64 7, .int .i64 0, .string (⟨#[]⟩ : ByteArray), .slice (some ⟨w.heap.size + 1 + 1 + 1, 0, none⟩) 3 3] 24)).heap[w.heap.size + 1 + 1 + 1]? = some (.cells tLit 24 (0, 0)) ∧ (((((w.alloc (.cells #[.int .i64 1, .int .i64 0, .string (⟨#[97]⟩ : ByteArray), .slice none 0 0] 24)).alloc (.cells #[.int .i64 1, .int .i64 0, .string (⟨#[98]⟩ : ByteArray), .slice none 0 0] 24)).alloc (.cells #[.int .i64 2, .int .i64 0, .string (⟨#[]⟩ : ByteArray), .slice none 0 0] 24)).alloc (.cells #[.int .i64 1, .int .i64 0, .string (⟨#[97]⟩ : ByteArray), .slice none 0 0, .int .i64 2, .int .i64 0, .string (⟨#[]⟩ : ByteArray), .slice none 0 0, .int .i64 1, .int .i64 0, .string (⟨#[98]⟩ : ByteArray), .slice none 0 0] 24)).alloc (.cells #[.int .i64 7, .int .i64 0, .string (⟨#[]⟩ : ByteArray), .slice (some ⟨w.heap.size + 1 + 1 + 1, 0, none⟩) 3 3] 24)).heap[w.heap.size + 1 + 1 + 1 + 1]? = some (.cells #[.int .i64 7, .int .i64 0, .string (⟨#[]⟩ : ByteArray), .slice (some ⟨w.heap.size + 1 + 1 + 1, 0, none⟩) 3 3] 24 (0, 0)) := by
  have e : ∀ (w : World) (o : Obj), (w.alloc o).heap.size = w.heap.size + 1 := fun w o => by simp
  refine ⟨below_alloc (below_alloc (below_alloc (below_alloc (below_alloc (Below.refl _ _) _) _) _) _) _, blk_alloc ?_ _, ?_⟩
  · have h := blk_new (((w.alloc (.cells #[.int .i64 1, .int .i64 0, .string (⟨#[97]⟩ : ByteArray), .slice none 0 0] 24)).alloc (.cells #[.int .i64 1, .int .i64 0, .string (⟨#[98]⟩ : ByteArray), .slice none 0 0] 24)).alloc (.cells #[.int .i64 2, .int .i64 0, .string (⟨#[]⟩ : ByteArray), .slice none 0 0] 24)) (.cells #[.int .i64 1, .int .i64 0, .string (⟨#[97]⟩ : ByteArray), .slice none 0 0, .int .i64 2, .int .i64 0, .string (⟨#[]⟩ : ByteArray), .slice none 0 0, .int .i64 1, .int .i64 0, .string (⟨#[98]⟩ : ByteArray), .slice none 0 0] 24)
    rw [e, e, e] at h
    exact h
  · have h := blk_new ((((w.alloc (.cells #[.int .i64 1, .int .i64 0, .string (⟨#[97]⟩ : ByteArray), .slice none 0 0] 24)).alloc (.cells #[.int .i64 1, .int .i64 0, .string (⟨#[98]⟩ : ByteArray), .slice none 0 0] 24)).alloc (.cells #[.int .i64 2, .int .i64 0, .string (⟨#[]⟩ : ByteArray), .slice none 0 0] 24)).alloc (.cells #[.int .i64 1, .int .i64 0, .string (⟨#[97]⟩ : ByteArray), .slice none 0 0, .int .i64 2, .int .i64 0, .string (⟨#[]⟩ : ByteArray), .slice none 0 0, .int .i64 1, .int .i64 0, .string (⟨#[98]⟩ : ByteArray), .slice none 0 0] 24)) (.cells #[.int .i64 7, .int .i64 0, .string (⟨#[]⟩ : ByteArray), .slice (some ⟨w.heap.size + 1 + 1 + 1, 0, none⟩) 3 3] 24)
    rw [e, e, e, e] at h
    exact h
theorem own_one {w : World} {B : Nat} {v : Value} {b : Bool} (h : w.ownsRow B 4 1 v (([b] : List Bool).map Value.bool).length (([b] : List Bool).map Value.bool)) : ∃ g c, v = .slice (some ⟨g, 0, none⟩) 1 c ∧ w.cell? ⟨g, 0, none⟩ = some (.bool b) := by
  rcases h.2 with ⟨_, e⟩ | ⟨g, cap, cur, hv, _⟩
  · simp at e
  · subst hv
    exact ⟨g, cap, rfl, h.cellAt 0 (by simp)⟩
theorem eq_ab : ((⟨#[97, 32, 98]⟩ : ByteArray).toList == (⟨#[97, 32, 98]⟩ : ByteArray).toList) = true := beq_self_eq_true _
set_option maxHeartbeats 4000000 in
set_option maxRecDepth 100000 in
theorem told_calls (w : World) : Calls Try.prog 10 #[] w fun e w' => e = .returned (.bool true) ∧ Below w.heap.size w w' := by
  have hu24 := Try.underlying24
  have hu22 := Try.underlying22
  have hu28 := Try.underlying28
  have hu30 := Try.underlying30
  go_enter Try.func10, Try.ntmps10
  go_upto_region 3 with (fail)
  have F := told_facts w
  generalize World.alloc (World.alloc (World.alloc (World.alloc (World.alloc w _) _) _) _) _ = w5 at F ⊢
  generalize w.heap.size + 1 + 1 + 1 + 1 = g4 at F ⊢
  generalize w.heap.size + 1 + 1 + 1 = gl at F ⊢
  have HB := Aside0.mk F.1
  have BL := Aside0.mk F.2.1
  have BG := Aside0.mk F.2.2
  clear F
  have z0 : w5.cell? ⟨g4, 0, none⟩ = some (.int .i64 7) := (blk_cell BG.out 0).trans rfl
  have z1 : w5.cell? ⟨g4, 1, none⟩ = some (.int .i64 0) := (blk_cell BG.out 1).trans rfl
  have z2 : w5.cell? ⟨g4, 2, none⟩ = some (.string (⟨#[]⟩ : ByteArray)) := (blk_cell BG.out 2).trans rfl
  have z3 : w5.cell? ⟨g4, 3, none⟩ = some (.slice (some ⟨gl, 0, none⟩) 3 3) := (blk_cell BG.out 3).trans rfl
  go_wp2_with (first | ((with_reducible refine gate_dst (N := 22) rfl ?_); refine goesL_ (some 22) rfl rfl Try.func11 (by kernel_rfl) rfl #[.agg #[.int .i64 7, .int .i64 0, .string (⟨#[]⟩ : ByteArray), .slice (some ⟨gl, 0, none⟩) 3 3], .int .i64 3] rfl (by (try simp only [List.map_toArray, List.map_cons, List.map_nil]); first | done | rfl) ?_; (refine (Render_calls (x := tG) (wd := 3) (tG_dc BL.out) tG_fin tG_cnt).mono ?_); (rintro e w122 ⟨rfl, hb⟩; refine ⟨_, rfl, ?_⟩; rw [tG_t3, tG_e.1]; have m0 := Aside0.mk (below_step HB.out hb); have m1 := Aside0.mk (blk_below BL.out hb); have m2 := Aside0.mk (blk_below BG.out hb); clear HB BL BG z0 z1 z2 z3 hb; have HB := m0; have BL := m1; have BG := m2; clear m0 m1 m2; have z0 : w122.cell? ⟨g4, 0, none⟩ = some (.int .i64 7) := (blk_cell BG.out 0).trans rfl; have z1 : w122.cell? ⟨g4, 1, none⟩ = some (.int .i64 0) := (blk_cell BG.out 1).trans rfl; have z2 : w122.cell? ⟨g4, 2, none⟩ = some (.string (⟨#[]⟩ : ByteArray)) := (blk_cell BG.out 2).trans rfl; have z3 : w122.cell? ⟨g4, 3, none⟩ = some (.slice (some ⟨gl, 0, none⟩) 3 3) := (blk_cell BG.out 3).trans rfl)) | ((with_reducible refine gate_dst (N := 27) rfl ?_); refine goesL_ (some 27) rfl rfl Try.func11 (by kernel_rfl) rfl #[.agg #[.int .i64 7, .int .i64 0, .string (⟨#[]⟩ : ByteArray), .slice (some ⟨gl, 0, none⟩) 3 3], .int .i64 2] rfl (by (try simp only [List.map_toArray, List.map_cons, List.map_nil]); first | done | rfl) ?_; (refine (Render_calls (x := tG) (wd := 2) (tG_dc BL.out) tG_fin tG_cnt).mono ?_); (rintro e w127 ⟨rfl, hb⟩; refine ⟨_, rfl, ?_⟩; rw [tG_t2, tG_e.2.1]; have m0 := Aside0.mk (below_step HB.out hb); have m1 := Aside0.mk (blk_below BL.out hb); have m2 := Aside0.mk (blk_below BG.out hb); clear HB BL BG z0 z1 z2 z3 hb; have HB := m0; have BL := m1; have BG := m2; clear m0 m1 m2; have z0 : w127.cell? ⟨g4, 0, none⟩ = some (.int .i64 7) := (blk_cell BG.out 0).trans rfl; have z1 : w127.cell? ⟨g4, 1, none⟩ = some (.int .i64 0) := (blk_cell BG.out 1).trans rfl; have z2 : w127.cell? ⟨g4, 2, none⟩ = some (.string (⟨#[]⟩ : ByteArray)) := (blk_cell BG.out 2).trans rfl; have z3 : w127.cell? ⟨g4, 3, none⟩ = some (.slice (some ⟨gl, 0, none⟩) 3 3) := (blk_cell BG.out 3).trans rfl)) | ((with_reducible refine gate_dst (N := 32) rfl ?_); refine goesL_ (some 32) rfl rfl Try.func11 (by kernel_rfl) rfl #[.agg #[.int .i64 7, .int .i64 0, .string (⟨#[]⟩ : ByteArray), .slice (some ⟨gl, 0, none⟩) 3 3], .int .i64 0] rfl (by (try simp only [List.map_toArray, List.map_cons, List.map_nil]); first | done | rfl) ?_; (refine (Render_calls (x := tG) (wd := 0) (tG_dc BL.out) tG_fin tG_cnt).mono ?_); (rintro e w132 ⟨rfl, hb⟩; refine ⟨_, rfl, ?_⟩; rw [tG_e.2.2]; have m0 := Aside0.mk (below_step HB.out hb); have m1 := Aside0.mk (blk_below BL.out hb); have m2 := Aside0.mk (blk_below BG.out hb); clear HB BL BG z0 z1 z2 z3 hb; have HB := m0; have BL := m1; have BG := m2; clear m0 m1 m2; have z0 : w132.cell? ⟨g4, 0, none⟩ = some (.int .i64 7) := (blk_cell BG.out 0).trans rfl; have z1 : w132.cell? ⟨g4, 1, none⟩ = some (.int .i64 0) := (blk_cell BG.out 1).trans rfl; have z2 : w132.cell? ⟨g4, 2, none⟩ = some (.string (⟨#[]⟩ : ByteArray)) := (blk_cell BG.out 2).trans rfl; have z3 : w132.cell? ⟨g4, 3, none⟩ = some (.slice (some ⟨gl, 0, none⟩) 3 3) := (blk_cell BG.out 3).trans rfl)) | ((with_reducible refine gate_dst (N := 36) rfl ?_); refine goesL_ (some 36) rfl rfl Try.func13 (by kernel_rfl) rfl #[.agg #[.int .i64 7, .int .i64 0, .string (⟨#[]⟩ : ByteArray), .slice (some ⟨gl, 0, none⟩) 3 3], .int .i64 3] rfl (by (try simp only [List.map_toArray, List.map_cons, List.map_nil]); first | done | rfl) ?_; (refine (Modes_calls (x := tG) (wd := 3) (tG_dc BL.out) tG_fin tG_cnt).mono ?_); (rintro e w136 ⟨v, rfl, hown, hb⟩; refine ⟨_, rfl, ?_⟩; rw [tG_m] at hown; obtain ⟨gm, cm, rfl, hcm⟩ := own_one hown; have m0 := Aside0.mk (below_step HB.out hb); have m1 := Aside0.mk (blk_below BL.out hb); have m2 := Aside0.mk (blk_below BG.out hb); clear HB BL BG z0 z1 z2 z3 hb; have HB := m0; have BL := m1; have BG := m2; clear m0 m1 m2; have z0 : w136.cell? ⟨g4, 0, none⟩ = some (.int .i64 7) := (blk_cell BG.out 0).trans rfl; have z1 : w136.cell? ⟨g4, 1, none⟩ = some (.int .i64 0) := (blk_cell BG.out 1).trans rfl; have z2 : w136.cell? ⟨g4, 2, none⟩ = some (.string (⟨#[]⟩ : ByteArray)) := (blk_cell BG.out 2).trans rfl; have z3 : w136.cell? ⟨g4, 3, none⟩ = some (.slice (some ⟨gl, 0, none⟩) 3 3) := (blk_cell BG.out 3).trans rfl)))
  go_ret
  exact ⟨rfl, HB.out⟩
end Go.Proofs.Ytigihiggpfjbjaa.PR

/- What the walks of the laws keep: a document in a box; the contracts of what they call. -/
namespace Go.Proofs.Ytigihiggpfjbjaa.PR
open Go.RowKit Go.Proofs.YtigihiggpfjbjaaW.PrintWords Go.Proofs.YtigihiggpfjbjaaW.PrintLast Go.Proofs.YtigihiggpfjbjaaW.PrintMore
set_option linter.unusedVariables false
set_option linter.unusedSimpArgs false
/-- A document that came in, and its box. -/
structure IvD (w0 w : World) (ga : Nat) (x : S24) (A : Option Addr) (c : Nat) : Prop where
  hb : Below w0.heap.size w0 w
  bx : w.heap[ga]? = some (.cells (dcs x A c) 24 (0, 0))
  ox : Dc w0 x A c
section
variable {w0 w w' : World} {ga : Nat} {x : S24} {A : Option Addr} {c : Nat}
theorem IvD.step (h : IvD w0 w ga x A c) (k : Below w.heap.size w w') : IvD w0 w' ga x A c := ⟨below_step h.hb k, blk_below h.bx k, h.ox⟩
theorem IvD.dx (h : IvD w0 w ga x A c) : Dc w x A c := h.ox.below h.hb
theorem IvD.c0 (h : IvD w0 w ga x A c) : w.cell? ⟨ga, 0, none⟩ = some (.int .i64 x.f0) := (blk_cell h.bx 0).trans rfl
theorem IvD.c1 (h : IvD w0 w ga x A c) : w.cell? ⟨ga, 1, none⟩ = some (.int .i64 x.f1) := (blk_cell h.bx 1).trans rfl
theorem IvD.c2 (h : IvD w0 w ga x A c) : w.cell? ⟨ga, 2, none⟩ = some (.string x.f2) := (blk_cell h.bx 2).trans rfl
theorem IvD.c3 (h : IvD w0 w ga x A c) : w.cell? ⟨ga, 3, none⟩ = some (.slice A x.f3.length c) := (blk_cell h.bx 3).trans rfl
end
/-- A document that is few. -/
theorem few_small {x : S24} (h : decide (fewD x 60 ≤ 500) = true) : cnt x ≤ 500 ∧ dep x ≤ 60 ∧ finD x := by
  have h := of_decide_eq_true h
  have h1 := fewD_small x 60 h
  exact ⟨by omega, h1.2.1, h1.2.2⟩
theorem remU (k : Nat) (hk : 0 < k) (hk2 : k ≤ 1000000) (n : Int) : ∃ m : Nat, m < k ∧ wrap64 (Int.tmod (IntKind.u64.wrap n) k) = (m : Int) := by
  have h0 : 0 ≤ IntKind.u64.wrap n := by simp [IntKind.wrap, IntKind.signed]; omega
  obtain ⟨j, hj⟩ := Int.eq_ofNat_of_zero_le h0
  have hlt : j % k < k := Nat.mod_lt _ hk
  refine ⟨j % k, hlt, ?_⟩
  rw [hj]
  have : Int.tmod (j : Int) (k : Int) = ((j % k : Nat) : Int) := rfl
  rw [this]
  unfold wrap64
  omega
theorem wdU_range (k : Nat) (hk : 0 < k) (hk2 : k ≤ 1000000) (n : Int) : 1 ≤ wrap64 (1 + wrap64 (Int.tmod (IntKind.u64.wrap n) k)) ∧ wrap64 (1 + wrap64 (Int.tmod (IntKind.u64.wrap n) k)) ≤ k := by
  obtain ⟨m, h1, h2⟩ := remU k hk hk2 n
  rw [h2]
  unfold wrap64
  omega
theorem words_of (x : S24) (A : Option Addr) (c : Nat) (s : ByteArray) (b : Bool) (w : World) (h : Dc w x A c) (hx : finD x) (hc : cnt x ≤ 500) (e : (if okW x = true then (wordV x, true) else ((⟨#[]⟩ : ByteArray), false)) = (s, b)) : Calls Try.prog 16 #[.agg #[.int .i64 x.f0, .int .i64 x.f1, .string x.f2, .slice A x.f3.length c]] w fun e w' => e = .returned (.tuple #[.string s, .bool b]) ∧ Below w.heap.size w w' := by
  have hr := wordsR _ x (Nat.le_refl _) hc hx
  rw [e] at hr
  obtain ⟨k, hk⟩ := hr.rounds
  exact galleylaw17_words.calls k _ _ _ _ _ _ _ _ w h.g3 h.l3 hk
theorem wid_of (x : S24) (A : Option Addr) (c : Nat) (w : World) (h : Dc w x A c) (hx : finD x) (hc : cnt x ≤ 500) (ho : allOwn x = true) : Calls Try.prog 19 #[.agg #[.int .i64 x.f0, .int .i64 x.f1, .string x.f2, .slice A x.f3.length c]] w fun e w' => e = .returned (.int .i64 (wdV x)) ∧ Below w.heap.size w w' := by
  obtain ⟨k, hk⟩ := (widthR _ x (Nat.le_refl _) hc hx ho).rounds
  exact galleyref15_Width.calls k _ _ _ _ _ _ _ w h.g3 h.l3 hk
theorem flat_of (x : S24) (A : Option Addr) (c : Nat) (s : ByteArray) (b : Bool) (w : World) (h : Dc w x A c) (hx : finD x) (hc : cnt x ≤ 500) (e : (if frcB x = true then ((⟨#[]⟩ : ByteArray), false) else (flatV x, true)) = (s, b)) : Calls Try.prog 18 #[.agg #[.int .i64 x.f0, .int .i64 x.f1, .string x.f2, .slice A x.f3.length c]] w fun e w' => e = .returned (.tuple #[.string s, .bool b]) ∧ Below w.heap.size w w' := by
  have hr := FlatR x hc hx
  rw [e] at hr
  obtain ⟨k, hk⟩ := hr.rounds
  exact galleyref15_Flat.calls k _ _ _ _ _ _ _ _ w h.g3 h.l3 hk
theorem rend_of (x : S24) (A : Option Addr) (c : Nat) (wd : Int) (s : ByteArray) (n : Int) (w : World) (h : Dc w x A c) (hx : finD x) (hc : cnt x ≤ 1100) (es : renT x wd = s) (en : renE x wd = n) : Calls Try.prog 11 #[.agg #[.int .i64 x.f0, .int .i64 x.f1, .string x.f2, .slice A x.f3.length c], .int .i64 wd] w fun e w' => e = .returned (.tuple #[.string s, .int .i64 n]) ∧ Below w.heap.size w w' := by
  subst es
  subst en
  exact Render_calls h hx hc
theorem modes_of (x : S24) (A : Option Addr) (c : Nat) (wd : Int) (m : List Bool) (w : World) (h : Dc w x A c) (hx : finD x) (hc : cnt x ≤ 1100) (em : renM x wd = m) : Calls Try.prog 13 #[.agg #[.int .i64 x.f0, .int .i64 x.f1, .string x.f2, .slice A x.f3.length c], .int .i64 wd] w fun e w' => ∃ v, e = .returned v ∧ w'.ownsRow w.heap.size 4 1 v (m.map Value.bool).length (m.map Value.bool) ∧ Below w.heap.size w w' := by
  subst em
  exact Modes_calls h hx hc
theorem renE_ok {x : S24} {wd : Int} (h1 : 1 ≤ wd) (h2 : wd ≤ 10000) (hm : mayB x = true) : renE x wd = 0 := by
  unfold renE
  rw [if_pos ((okR_iff x wd).2 ⟨h1, h2, hm⟩)]
/-- One byte more of a text is kept, or not. -/
theorem filt_take (T : ByteArray) (i : Nat) (h : i < T.size) : ((bytesOf T).take (i + 1)).filter keep = ((bytesOf T).take i).filter keep ++ (if keep (bt T (i : Int)) = true then [bt T (i : Int)] else []) := by
  have hl : i < (bytesOf T).length := by rw [bytesOf_length]; exact h
  have e : (bytesOf T)[i] = bt T (i : Int) := by
    rw [← rd_bytesOf]
    simp [rd, List.getD_eq_getElem?_getD, hl]
  rw [List.take_succ_eq_append_getElem hl, List.filter_append, e]
  congr 1
  simp only [List.filter_cons, List.filter_nil]
theorem strOf_append (a b : List Int) : strOf (a ++ b) = strOf a ++ strOf b := by
  apply ByteArray.ext
  rw [strOf_data]
  simp [strOf_data]
theorem extract_one (T : ByteArray) (i : Nat) (h : i < T.size) : T.extract i (i + 1) = strOf [bt T (i : Int)] := by
  apply ByteArray.ext
  rw [strOf_data]
  have hd : i < T.data.toList.length := by rw [Array.length_toList]; exact h
  rw [bt_nat T i hd]
  apply Array.ext'
  simp only [ByteArray.data_extract, Array.toList_extract, List.map_cons, List.map_nil, Int.toNat_natCast, UInt8.ofNat_toNat]
  rw [List.extract_eq_take_drop, show i + 1 - i = 1 by omega, List.drop_eq_getElem_cons hd]
  rfl
end Go.Proofs.Ytigihiggpfjbjaa.PR

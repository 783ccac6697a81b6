/- Plain: what is on one line; the first group's mode. -/
import Derived.Test.YtigihiggpfjbjaaHLC
import Derived.Test.YtigihiggpfjbjaaHCf
namespace Go.Proofs.Ytigihiggpfjbjaa.PR
open Go.RowKit Go.Proofs.YtigihiggpfjbjaaW.PrintWords Go.Proofs.YtigihiggpfjbjaaW.PrintLast Go.Proofs.YtigihiggpfjbjaaW.PrintMore
set_option linter.unusedVariables false
set_option linter.unusedSimpArgs false
theorem cw_nil : cw (⟨#[]⟩ : ByteArray) = 0 := rfl
/-- Nothing but modes that are true has been added. -/
def trues (S T : St) : Prop := ∃ k, T.modes = S.modes ++ List.replicate k true
theorem trues.trans {S T U : St} (h : trues S T) (k : trues T U) : trues S U := by
  obtain ⟨a, h⟩ := h
  obtain ⟨b, k⟩ := k
  exact ⟨a + b, by rw [k, h, List.append_assoc, List.replicate_append_replicate]⟩
theorem frcL_cons {x : S24} {r : List S24} (h : frcL (x :: r) = false) : frcB x = false ∧ frcL r = false := by
  rw [frcL, Bool.or_eq_false_iff] at h
  exact h
theorem frcB_kids {x : S24} (h : frcB x = false) : x.f0 ≠ 4 ∧ frcL x.f3 = false := by
  rw [frcB_eq] at h
  by_cases h4 : x.f0 = 4
  · rw [if_pos h4] at h; cases h
  · rw [if_neg h4] at h
    by_cases h7 : x.f0 = 7 ∧ x.f1 = 1
    · rw [if_pos h7] at h; cases h
    · rw [if_neg h7] at h; exact ⟨h4, h⟩
theorem textP_flat (s : ByteArray) (n : Int) (S : St) (hp : S.pen = 0) (hn : s.toList.isEmpty = true → n = 0) : (textP s n S).out = S.out ++ bytesOf s ∧ (textP s n S).col = S.col + n ∧ (textP s n S).pen = 0 ∧ (textP s n S).modes = S.modes := by
  unfold textP
  split
  · rename_i h
    rw [emp_of_isEmpty h, bytesOf_nil, List.append_nil, hn h, Int.add_zero]
    exact ⟨rfl, rfl, hp, rfl⟩
  · simp only [hp, List.replicate_zero, List.append_nil]
    trivial
mutual
/-- On one line: the texts, and a blank for each line. -/
theorem rend_flat (wd : Int) : ∀ (x : S24) (n fr : Int) (S : St), frcB x = false → allOwn x = true → S.pen = 0 → (rend wd x n true fr S).out = S.out ++ bytesOf (flatV x) ∧ (rend wd x n true fr S).col = S.col + wdV x ∧ (rend wd x n true fr S).pen = 0 ∧ trues S (rend wd x n true fr S)
  | ⟨k, m, s, l⟩, n, fr, S, hf, ho, hp => by
    obtain ⟨h4, hfl⟩ := frcB_kids hf
    rw [allOwn_eq, Bool.and_eq_true] at ho
    simp only at h4 hfl ho
    unfold rend
    rw [flatV_eq]
    simp only
    split
    · rename_i hk
      have hl := (own_leaf ho.1 (Or.inl hk)).1
      simp only at hl
      have h := textP_flat s (wdV ⟨k, m, s, l⟩) S hp (fun he => by rw [wdV_eq, own1, if_pos hk, emp_of_isEmpty he, cw_nil, hl]; rfl)
      exact ⟨h.1, h.2.1, h.2.2.1, 0, by rw [h.2.2.2, List.replicate_zero, List.append_nil]⟩
    · rename_i hk1
      split
      · rename_i hk
        have hl := (own_leaf ho.1 (Or.inr hk)).1
        simp only at hl
        rw [if_neg (fun h => h.elim (fun e => by cases e) (fun e => h4 e))]
        split
        · rename_i hk2
          have h := textP_flat (⟨#[32]⟩ : ByteArray) 1 S hp (fun he => by rw [blank_toList] at he; cases he)
          refine ⟨h.1, ?_, h.2.2.1, 0, by rw [h.2.2.2, List.replicate_zero, List.append_nil]⟩
          rw [h.2.1, wdV_eq, hl]
          simp only [own1, wdL]
          rw [if_neg hk1, if_pos hk2]
          rfl
        · rename_i hk2
          rw [hl]
          refine ⟨by rw [flatL, bytesOf_nil, List.append_nil], ?_, hp, 0, by rw [List.replicate_zero, List.append_nil]⟩
          rw [wdV_eq]
          simp only [own1, wdL]
          rw [if_neg hk1, if_neg hk2, Int.zero_add, Int.add_zero]
      · rename_i hk2
        rw [if_neg (show ¬ k = 2 by omega)]
        have hw : wdV ⟨k, m, s, l⟩ = wdL l := by
          rw [wdV_eq]
          simp only [own1]
          rw [if_neg hk1, if_neg (show ¬ k = 2 by omega), Int.zero_add]
        rw [hw]
        split
        · rw [Bool.true_or]
          obtain ⟨h1, h2, h3, j, h5⟩ := rendL_flat wd l n fr { S with modes := S.modes ++ [true] } hfl ho.2 hp
          refine ⟨h1, h2, h3, j + 1, ?_⟩
          rw [h5]
          simp only [List.append_assoc, List.replicate_succ]
          rfl
        · exact rendL_flat wd l (n + m) fr S hfl ho.2 hp
theorem rendL_flat (wd : Int) : ∀ (l : List S24) (n fr : Int) (S : St), frcL l = false → allOwnL l = true → S.pen = 0 → (rendL wd l n true fr S).out = S.out ++ bytesOf (flatL l) ∧ (rendL wd l n true fr S).col = S.col + wdL l ∧ (rendL wd l n true fr S).pen = 0 ∧ trues S (rendL wd l n true fr S)
  | [], _, _, S, _, _, hp => by
    unfold rendL
    refine ⟨by rw [flatL, bytesOf_nil, List.append_nil], by rw [wdL, Int.add_zero], hp, 0, by rw [List.replicate_zero, List.append_nil]⟩
  | x :: r, n, fr, S, hf, ho, hp => by
    obtain ⟨f1, f2⟩ := frcL_cons hf
    rw [allOwnL, Bool.and_eq_true] at ho
    unfold rendL
    obtain ⟨a1, a2, a3, a4⟩ := rend_flat wd x n (frL r fr) S f1 ho.1 hp
    obtain ⟨b1, b2, b3, b4⟩ := rendL_flat wd r n fr (rend wd x n true (frL r fr) S) f2 ho.2 a3
    refine ⟨?_, ?_, b3, a4.trans b4⟩
    · rw [b1, a1, flatL, bytesOf_append, List.append_assoc]
    · rw [b2, a2, wdL]
      omega
end
mutual
/-- Modes are only added. -/
theorem rend_modes (wd : Int) : ∀ (x : S24) (n : Int) (f : Bool) (fr : Int) (S : St), ∃ m, (rend wd x n f fr S).modes = S.modes ++ m
  | ⟨k, m, s, l⟩, n, f, fr, S => by
    have ht : ∀ (s : ByteArray) (n : Int), ∃ m, (textP s n S).modes = S.modes ++ m := fun s n => ⟨[], by unfold textP; split <;> simp⟩
    unfold rend
    split
    · exact ht _ _
    · split
      · split
        · exact ⟨[], by simp [lineP]⟩
        · split
          · exact ht _ _
          · exact ⟨[], by simp⟩
      · split
        · obtain ⟨q, hq⟩ := rendL_modes wd l n (f || fitB ⟨k, m, s, l⟩ wd S.col fr) fr { S with modes := S.modes ++ [f || fitB ⟨k, m, s, l⟩ wd S.col fr] }
          exact ⟨_, by rw [hq, List.append_assoc]⟩
        · exact rendL_modes wd l _ _ _ S
theorem rendL_modes (wd : Int) : ∀ (l : List S24) (n : Int) (f : Bool) (fr : Int) (S : St), ∃ m, (rendL wd l n f fr S).modes = S.modes ++ m
  | [], _, _, _, S => ⟨[], by unfold rendL; simp⟩
  | x :: r, n, f, fr, S => by
    obtain ⟨a, ha⟩ := rend_modes wd x n f (frL r fr) S
    obtain ⟨b, hb⟩ := rendL_modes wd r n f fr (rend wd x n f (frL r fr) S)
    unfold rendL
    exact ⟨a ++ b, by rw [hb, ha, List.append_assoc]⟩
end
/-- A group of one. -/
def grp (d : S24) : S24 := ⟨7, 0, ⟨#[]⟩, [d]⟩
theorem grp_frc (d : S24) : frcB (grp d) = frcB d := by
  simp [frcB, grp, frcL]
theorem grp_wd (d : S24) : wdV (grp d) = wdV d := by
  rw [wdV_eq, grp]
  simp [own1, wdL]
theorem grp_flat (d : S24) : flatV (grp d) = flatV d := by
  rw [flatV_eq]
  show flatL [d] = _
  rw [flatL, flatL, ba_append_nil]
theorem grp_may {d : S24} (h : mayB d = true) (hc : cnt d ≤ 1100) (hd : dep d ≤ 1000) : mayB (grp d) = true := by
  have ho := mayB_own h
  unfold mayB
  rw [Bool.and_eq_true, Bool.and_eq_true, decide_eq_true_eq, decide_eq_true_eq]
  refine ⟨⟨?_, ?_⟩, ?_⟩
  · rw [allOwn_eq, Bool.and_eq_true]
    exact ⟨by simp [ownB, grp, emp_toList], by rw [grp, allOwnL, allOwnL, ho]; rfl⟩
  · rw [dep_eq, grp]
    simp only [depL]
    omega
  · rw [cnt_eq, grp]
    simp only [cntL]
    omega
theorem grp_may_of {d : S24} (h : mayB (grp d) = true) : allOwn d = true := by
  have ho := mayB_own h
  rw [allOwn_eq, Bool.and_eq_true, grp, allOwnL, Bool.and_eq_true] at ho
  exact ho.2.1
theorem grp_fin {d : S24} (h : finD d) : finD (grp d) := ⟨by show 0 ≤ 100; omega, by show 1 ≤ 500; omega, h, trivial⟩
theorem grp_cnt (d : S24) : cnt (grp d) = 1 + cnt d := by rw [cnt_eq, grp]; simp [cntL]
/-- A group by itself: how it begins. -/
theorem grp_ren (d : S24) (wd : Int) : renS (grp d) wd = rendL wd [d] 0 (fitB (grp d) wd 0 0) 0 { S00 with modes := [fitB (grp d) wd 0 0] } := by
  unfold renS grp
  unfold rend
  rw [if_neg (show ¬ ((7 : Int) = 1) by decide), if_neg (show ¬ ((7 : Int) = 2 ∨ (7 : Int) = 3 ∨ (7 : Int) = 4) by decide), if_pos rfl, Bool.false_or]
  rfl
theorem grp_modes (d : S24) (wd : Int) : ∃ m, (renS (grp d) wd).modes = fitB (grp d) wd 0 0 :: m := by
  rw [grp_ren]
  obtain ⟨m, hm⟩ := rendL_modes wd [d] 0 (fitB (grp d) wd 0 0) 0 { S00 with modes := [fitB (grp d) wd 0 0] }
  exact ⟨m, by rw [hm]; rfl⟩
/-- A group that is on one line. -/
theorem grp_on (d : S24) (wd : Int) (hf : frcB d = false) (ho : allOwn d = true) (hw : wdV d ≤ wd) : fitB (grp d) wd 0 0 = true ∧ strOf (renS (grp d) wd).out = flatV d ∧ ∃ k, (renS (grp d) wd).modes = List.replicate (k + 1) true := by
  have hfit : fitB (grp d) wd 0 0 = true := by
    unfold fitB
    rw [grp_frc, hf, grp_wd, decide_eq_true (by omega)]
    rfl
  refine ⟨hfit, ?_⟩
  rw [grp_ren, hfit]
  obtain ⟨h1, h2, h3, k, h4⟩ := rendL_flat wd [d] 0 0 { S00 with modes := [true] } (by rw [frcL, frcL, hf]; rfl) (by rw [allOwnL, allOwnL, ho]; rfl) rfl
  refine ⟨?_, k, ?_⟩
  · rw [h1, flatL, flatL, ba_append_nil]
    show strOf ([] ++ bytesOf (flatV d)) = _
    rw [List.nil_append]
    exact strOf_bytesOf _
  · rw [h4, List.replicate_succ]
    rfl
theorem fit_grp (d : S24) (wd col fr : Int) : fitB (grp d) wd col fr = (!frcB d && decide (col + wdV d + fr ≤ wd)) := by
  unfold fitB
  rw [grp_frc, grp_wd]
end Go.Proofs.Ytigihiggpfjbjaa.PR

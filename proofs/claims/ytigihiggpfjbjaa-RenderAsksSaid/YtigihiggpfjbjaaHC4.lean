/- Plain: the program's and the document's Next go on by the same number of bytes. -/
import Derived.Test.YtigihiggpfjbjaaHQ1
import Derived.Test.YtigihiggpfjbjaaPRx4
import Derived.Test.YtigihiggpfjbjaaPRx7
import Derived.Laws.BitsLemmas
import Derived.Laws.BitsAllLaws
namespace Go.Proofs.Ytigihiggpfjbjaa.PR
open Go.RowKit Go.Proofs.YtigihiggpfjbjaaW.PrintWords Go.Proofs.YtigihiggpfjbjaaW.PrintLast Go.Proofs.YtigihiggpfjbjaaW.PrintMore
set_option linter.unusedVariables false
set_option linter.unusedSimpArgs false
theorem wraps_i64 (n : Int) (h₀ : 0 ≤ n) (h₁ : n < 2 ^ 63) : IntKind.i64.wrap n = n := by rw [IntKind.wrap_i64]; omega
theorem i64_or6 (x y : Int) (hx₀ : 0 ≤ x) (hx : x % 64 = 0) (hx₁ : x < 9223372036854775808) (h₀ : 0 ≤ y) (h₁ : y < 64) : Go.bits .or .i64 x y = x + y :=
  bits_join .i64 63 (by decide) wraps_i64 6 x y hx₀ hx hx₁ h₀ h₁ (by omega)
theorem i64_and31 (x : Int) (h₀ : 0 ≤ x) (h₁ : x < 9223372036854775808) : Go.bits .and .i64 x 31 = x % 32 := bits_mask .i64 63 (by decide) wraps_i64 5 (by decide) x h₀ h₁
theorem i64_and15 (x : Int) (h₀ : 0 ≤ x) (h₁ : x < 9223372036854775808) : Go.bits .and .i64 x 15 = x % 16 := bits_mask .i64 63 (by decide) wraps_i64 4 (by decide) x h₀ h₁
theorem i64_and7 (x : Int) (h₀ : 0 ≤ x) (h₁ : x < 9223372036854775808) : Go.bits .and .i64 x 7 = x % 8 := bits_mask .i64 63 (by decide) wraps_i64 3 (by decide) x h₀ h₁
set_option maxRecDepth 100000 in
/-- A byte's head is 10. -/
theorem head_10 : ∀ b : Fin 256, ((b.val &&& 192) = 128 ↔ 128 ≤ b.val ∧ b.val < 192) := by decide +kernel
theorem u8_and192 (b : Int) (h₀ : 0 ≤ b) (h₁ : b < 256) : Go.bits .and .u8 b 192 = 128 ↔ (128 ≤ b ∧ b < 192) := by
  obtain ⟨a, rfl⟩ := Int.eq_ofNat_of_zero_le h₀
  have ha : a < 256 := by omega
  have h := head_10 ⟨a, ha⟩
  simp only at h
  rw [show (192 : Int) = ((192 : Nat) : Int) from rfl, u8_and_nat a 192 ha (by decide)]
  constructor
  · intro e
    have := h.1 (by exact_mod_cast e)
    omega
  · intro e
    have := h.2 (by omega)
    exact_mod_cast this
theorem bt_range (s : ByteArray) (i : Int) : 0 ≤ bt s i ∧ bt s i < 256 := by
  unfold bt
  split
  · rename_i h
    have := (s[i.toNat]'h).toNat_lt
    omega
  · omega
end Go.Proofs.Ytigihiggpfjbjaa.PR

/- Plain: Next's loops. -/
namespace Go.Proofs.Ytigihiggpfjbjaa.PR
open Go.RowKit Go.Proofs.YtigihiggpfjbjaaW.PrintWords Go.Proofs.YtigihiggpfjbjaaW.PrintLast Go.Proofs.YtigihiggpfjbjaaW.PrintMore
set_option linter.unusedVariables false
set_option linter.unusedSimpArgs false
theorem least_f (n : Nat) (h1 : 1 ≤ n) (h4 : n ≤ 4) : utf_least.f (n : Int) = some (lim n) := by
  have h : n = 1 ∨ n = 2 ∨ n = 3 ∨ n = 4 := by omega
  rcases h with rfl | rfl | rfl | rfl <;> rfl
theorem is_f (c : Int) : utf_is.f c = some (decide (0 ≤ c) && decide (c ≤ 1114111) && ((c / 2048) != 27)) := by
  unfold utf_is.f
  by_cases h : c ≥ 0
  · rw [if_pos h]
    by_cases h2 : c ≤ 1114111
    · rw [if_pos h2, decide_eq_true h2, decide_eq_true (show 0 ≤ c from h)]; rfl
    · rw [if_neg h2, decide_eq_false h2]; simp
  · rw [if_neg h, decide_eq_false (show ¬ 0 ≤ c by omega)]; rfl
theorem cp_mid (c : Int) : ((c / 2048) != 27) = !(decide (55296 ≤ c) && decide (c ≤ 57343)) := by
  by_cases h1 : 55296 ≤ c
  · by_cases h2 : c ≤ 57343
    · have : c / 2048 = 27 := by omega
      rw [this, decide_eq_true h1, decide_eq_true h2]; rfl
    · have : c / 2048 ≠ 27 := by omega
      rw [decide_eq_true h1, decide_eq_false h2]; simp [this]
  · have : c / 2048 ≠ 27 := by omega
    rw [decide_eq_false h1]; simp [this]
theorem utf_tail (s : ByteArray) (i n : Nat) (h1 : 1 ≤ n) (h4 : n ≤ 4) (hs : i + n ≤ s.size) (hsz : s.size ≤ 1000000000000) :
    ∀ (m j : Nat) (c : Int), 1 ≤ j → j + m = n → 0 ≤ c → c < 128 * 64 ^ (3 - m) → ∃ v, Ev (fun k => utf_Next.l0 k s (i : Int) (n : Int) c (j : Int)) (v, (tailN s i n m j c : Int))
  | 0, j, c, hj1, hj, h0, hc => by
    have hjn : j = n := by omega
    subst hjn
    by_cases ho : okCp j c = true
    · refine ⟨c, Ev.step (f := fun _ => some (c, (j : Int))) (fun k => ?_) (by rw [tailN, if_pos ho]; exact Ev.now _)⟩
      simp only [okCp, Bool.and_eq_true, decide_eq_true_eq, Bool.not_eq_true'] at ho
      simp only [utf_Next.l0]
      rw [if_neg (by omega), least_f j h1 h4, Option.bind_some, if_neg (by omega), is_f, Option.bind_some, cp_mid, decide_eq_true h0, decide_eq_true ho.1.2, ho.2]
      rfl
    · refine ⟨-1, Ev.step (f := fun _ => some ((-1 : Int), (1 : Int))) (fun k => ?_) (by rw [tailN, if_neg ho]; exact Ev.now _)⟩
      simp only [utf_Next.l0]
      rw [if_neg (by omega), least_f j h1 h4, Option.bind_some]
      by_cases hl : c < lim j
      · rw [if_pos hl]
      · rw [if_neg hl, is_f, Option.bind_some, cp_mid, if_neg]
        intro h
        apply ho
        simp only [Bool.and_eq_true, decide_eq_true_eq] at h
        simp only [okCp, Bool.and_eq_true, decide_eq_true_eq]
        exact ⟨⟨by omega, h.1.2⟩, h.2⟩
  | m + 1, j, c, hj1, hj, h0, hc => by
    have hb := bt_range s ((i + j : Nat) : Int)
    have hw : wrap64 ((i : Int) + (j : Int)) = ((i + j : Nat) : Int) := by unfold wrap64; omega
    have hm : m ≤ 2 ∨ 3 ≤ m := by omega
    have hc2 : c < 2097152 := by
      have h64 : m = 0 ∨ m = 1 ∨ m = 2 ∨ 3 ≤ m := by omega
      rcases h64 with rfl | rfl | rfl | h
      · have : c < 524288 := by simpa using hc
        omega
      · have : c < 8192 := by simpa using hc
        omega
      · have : c < 128 := by simpa using hc
        omega
      · omega
    by_cases hk : 128 ≤ bt s ((i + j : Nat) : Int) ∧ bt s ((i + j : Nat) : Int) < 192
    · obtain ⟨v, hv⟩ := utf_tail s i n h1 h4 hs hsz m (j + 1) (c * 64 + bt s ((i + j : Nat) : Int) % 64) (by omega) (by omega) (by omega) (by
        have h64 : m = 0 ∨ m = 1 ∨ m = 2 ∨ 3 ≤ m := by omega
        rcases h64 with rfl | rfl | rfl | h
        · have h7 : c < 524288 := by simpa using hc
          have : (128 * 64 ^ (3 - 0) : Int) = 33554432 := by decide
          omega
        · have h7 : c < 8192 := by simpa using hc
          have : (128 * 64 ^ (3 - 1) : Int) = 524288 := by decide
          omega
        · have h7 : c < 128 := by simpa using hc
          have : (128 * 64 ^ (3 - 2) : Int) = 8192 := by decide
          omega
        · omega)
      refine ⟨v, Ev.step (f := fun k => utf_Next.l0 k s (i : Int) (n : Int) (c * 64 + bt s ((i + j : Nat) : Int) % 64) ((j + 1 : Nat) : Int)) (fun k => ?_) (by rw [tailN, if_pos hk]; exact hv)⟩
      simp only [utf_Next.l0]
      rw [if_pos (by omega), hw, if_pos (by omega), if_pos (by omega), if_pos (by omega), u8_and63 _ hb.1 hb.2, show wrap64 (bt s ((i + j : Nat) : Int) % 64) = bt s ((i + j : Nat) : Int) % 64 by unfold wrap64; omega,
        show wrap64 (c * 64) = c * 64 by unfold wrap64; omega, i64_or6 _ _ (by omega) (by omega) (by omega) (by omega) (by omega), show wrap64 ((j : Int) + 1) = ((j + 1 : Nat) : Int) by unfold wrap64; omega]
    · refine ⟨-1, Ev.step (f := fun _ => some ((-1 : Int), (1 : Int))) (fun k => ?_) (by rw [tailN, if_neg hk]; exact Ev.now _)⟩
      simp only [utf_Next.l0]
      rw [if_pos (by omega), hw, if_pos (by omega), if_pos (by omega), if_neg (by omega)]
theorem point_f (c : Int) (h0 : 0 ≤ c) : galleyref1_Point.f c = some (decide (c ≤ 1114111) && !(decide (55296 ≤ c) && decide (c ≤ 57343))) := by
  unfold galleyref1_Point.f
  rw [if_pos h0]
  by_cases h2 : c ≤ 1114111
  · rw [if_pos h2, decide_eq_true h2, Bool.true_and]
    by_cases h3 : c < 55296
    · rw [if_pos h3, decide_eq_false (show ¬ 55296 ≤ c by omega)]; rfl
    · rw [if_neg h3, decide_eq_true (show 55296 ≤ c by omega), Bool.true_and]
      by_cases h4 : c ≤ 57343
      · rw [decide_eq_true h4, decide_eq_false (by omega)]; rfl
      · rw [decide_eq_false h4, decide_eq_true (by omega)]; rfl
  · rw [if_neg h2, decide_eq_false h2]; rfl
theorem ref_step (s : ByteArray) (i j n : Nat) (L c : Int) (k : Nat) (hj : j < n) (hs : i + n ≤ s.size) (hsz : s.size ≤ 1000000000000) (h0 : 0 ≤ c) (hc : c < 524288) (hk : 128 ≤ bt s ((i + j : Nat) : Int) ∧ bt s ((i + j : Nat) : Int) < 192) (hb : 0 ≤ bt s ((i + j : Nat) : Int) ∧ bt s ((i + j : Nat) : Int) < 256) :
    galleyref1_Next.l0 (k + 1) s (i : Int) c (n : Int) L (j : Int) = galleyref1_Next.l0 k s (i : Int) (c * 64 + bt s ((i + j : Nat) : Int) % 64) (n : Int) L ((j + 1 : Nat) : Int) := by
  have hw : wrap64 ((i : Int) + (j : Int)) = ((i + j : Nat) : Int) := by unfold wrap64; omega
  have hj2 : (j : Int) < (n : Int) := by omega
  have hj3 : ((i + j : Nat) : Int) < (s.size : Int) := by omega
  have hj4 : (0 : Int) ≤ ((i + j : Nat) : Int) := by omega
  have hj5 : wrap64 ((j : Int) + 1) = ((j + 1 : Nat) : Int) := by unfold wrap64; omega
  have hk3 : ∀ b : Int, 0 ≤ b → b < 256 → wrap64 (wrap64 (c * 64) + wrap64 (b % 64)) = c * 64 + b % 64 := fun b b0 b1 => by unfold wrap64; omega
  have e1 := (u8_and192 _ hb.1 hb.2).2 hk
  have e2 := u8_and63 _ hb.1 hb.2
  have e3 := hk3 _ hb.1 hb.2
  clear hk hb hk3
  rw [galleyref1_Next.l0, if_pos hj2, hw, if_pos hj4, if_pos hj3, if_pos e1, e2, e3, hj5]
theorem ref_tail (s : ByteArray) (i n : Nat) (h4 : n ≤ 4) (hs : i + n ≤ s.size) (hsz : s.size ≤ 1000000000000) :
    ∀ (m j : Nat) (c : Int), 1 ≤ j → j + m = n → 0 ≤ c → c < 128 * 64 ^ (3 - m) → ∃ v, Ev (fun k => galleyref1_Next.l0 k s (i : Int) c (n : Int) (lim n) (j : Int)) (v, (tailN s i n m j c : Int))
  | 0, j, c, hj1, hj, h0, hc => by
    have hjn : j = n := by omega
    subst hjn
    by_cases ho : okCp j c = true
    · refine ⟨c, Ev.step (f := fun _ => some (c, (j : Int))) (fun k => ?_) (by rw [tailN, if_pos ho]; exact Ev.now _)⟩
      simp only [okCp, Bool.and_eq_true, decide_eq_true_eq, Bool.not_eq_true'] at ho
      simp only [galleyref1_Next.l0]
      rw [if_neg (by omega), if_neg (by omega), point_f c h0, Option.bind_some, decide_eq_true ho.1.2, ho.2]
      rfl
    · refine ⟨-1, Ev.step (f := fun _ => some ((-1 : Int), (1 : Int))) (fun k => ?_) (by rw [tailN, if_neg ho]; exact Ev.now _)⟩
      simp only [galleyref1_Next.l0]
      rw [if_neg (by omega)]
      by_cases hl : c < lim j
      · rw [if_pos hl]
      · rw [if_neg hl, point_f c h0, Option.bind_some, if_neg]
        intro h
        apply ho
        simp only [Bool.and_eq_true, decide_eq_true_eq] at h
        simp only [okCp, Bool.and_eq_true, decide_eq_true_eq]
        exact ⟨⟨by omega, h.1⟩, h.2⟩
  | m + 1, j, c, hj1, hj, h0, hc => by
    have hb := bt_range s ((i + j : Nat) : Int)
    have hw : wrap64 ((i : Int) + (j : Int)) = ((i + j : Nat) : Int) := by unfold wrap64; omega
    have h64 : m = 0 ∨ m = 1 ∨ m = 2 := by omega
    have hc2 : c < 524288 ∧ c * 64 + 63 < 128 * 64 ^ (3 - m) := by
      rcases h64 with rfl | rfl | rfl
      · have h7 : c < 524288 := by simpa using hc
        have : (128 * 64 ^ (3 - 0) : Int) = 33554432 := by decide
        omega
      · have h7 : c < 8192 := by simpa using hc
        have : (128 * 64 ^ (3 - 1) : Int) = 524288 := by decide
        omega
      · have h7 : c < 128 := by simpa using hc
        have : (128 * 64 ^ (3 - 2) : Int) = 8192 := by decide
        omega
    by_cases hk : 128 ≤ bt s ((i + j : Nat) : Int) ∧ bt s ((i + j : Nat) : Int) < 192
    · obtain ⟨v, hv⟩ := ref_tail s i n h4 hs hsz m (j + 1) (c * 64 + bt s ((i + j : Nat) : Int) % 64) (by omega) (by omega) (by omega) (by omega)
      refine ⟨v, Ev.step (f := fun k => galleyref1_Next.l0 k s (i : Int) (c * 64 + bt s ((i + j : Nat) : Int) % 64) (n : Int) (lim n) ((j + 1 : Nat) : Int)) (fun k => ?_) (by rw [tailN, if_pos hk]; exact hv)⟩
      clear hv
      exact ref_step s i j n (lim n) c k (by omega) hs hsz h0 hc2.1 hk hb
    · refine ⟨-1, Ev.step (f := fun _ => some ((-1 : Int), (1 : Int))) (fun k => ?_) (by rw [tailN, if_neg hk]; exact Ev.now _)⟩
      simp only [galleyref1_Next.l0]
      rw [if_pos (by omega), hw, if_pos (by omega), if_pos (by omega), if_neg (fun h => hk ((u8_and192 _ hb.1 hb.2).1 h))]
end Go.Proofs.Ytigihiggpfjbjaa.PR

/- Plain: the program's and the document's counts of code points are one. -/
namespace Go.Proofs.Ytigihiggpfjbjaa.PR
open Go.RowKit Go.Proofs.YtigihiggpfjbjaaW.PrintWords Go.Proofs.YtigihiggpfjbjaaW.PrintLast Go.Proofs.YtigihiggpfjbjaaW.PrintMore
set_option linter.unusedVariables false
set_option linter.unusedSimpArgs false
theorem p64_2 : (128 * 64 ^ (3 - (2 - 1)) : Int) = 524288 := by decide
theorem p64_3 : (128 * 64 ^ (3 - (3 - 1)) : Int) = 8192 := by decide
theorem p64_4 : (128 * 64 ^ (3 - (4 - 1)) : Int) = 128 := by decide
theorem lead_f (b : Int) (h0 : 0 ≤ b) (h1 : b < 256) : utf_lead.f b = some (if b < 128 then (1, b) else if 192 ≤ b ∧ b < 224 then (2, b % 32) else if 224 ≤ b ∧ b < 240 then (3, b % 16) else if 240 ≤ b ∧ b < 248 then (4, b % 8) else (0, 0)) := by
  have w31 := u8_and31 (x := b) h0 h1
  have w15 := u8_and15 (x := b) h0 h1
  have w7 := u8_and7 (x := b) h0 h1
  unfold utf_lead.f
  rw [w31, w15, w7]
  clear w31 w15 w7
  by_cases c1 : b < 128
  · rw [if_pos c1, if_pos c1, show wrap64 b = b by unfold wrap64; omega]
  · rw [if_neg c1, if_neg c1]
    by_cases c2 : b / 32 = 6
    · rw [if_pos c2, if_pos (show 192 ≤ b ∧ b < 224 by omega), show wrap64 (b % 32) = b % 32 by unfold wrap64; omega]
    · rw [if_neg c2, if_neg (show ¬ (192 ≤ b ∧ b < 224) by omega)]
      by_cases c3 : b / 16 = 14
      · rw [if_pos c3, if_pos (show 224 ≤ b ∧ b < 240 by omega), show wrap64 (b % 16) = b % 16 by unfold wrap64; omega]
      · rw [if_neg c3, if_neg (show ¬ (224 ≤ b ∧ b < 240) by omega)]
        by_cases c4 : b / 8 = 30
        · rw [if_pos c4, if_pos (show 240 ≤ b ∧ b < 248 by omega), show wrap64 (b % 8) = b % 8 by unfold wrap64; omega]
        · rw [if_neg c4, if_neg (show ¬ (240 ≤ b ∧ b < 248) by omega)]
/-- The loop of utf.Next, from the head on. -/
theorem utf_head (s : ByteArray) (i n : Nat) (c : Int) (hn1 : 1 ≤ n) (hn4 : n ≤ 4) (hi : i < s.size) (hsz : s.size ≤ 1000000000000) (h0 : 0 ≤ c) (hc : c < 128 * 64 ^ (3 - (n - 1))) :
    ∃ v, Ev (fun k => utf_Next.j1 k s (i : Int) (n : Int) c (decide ((n : Int) > wrap64 ((s.size : Int) - (i : Int))))) (v, ((if i + n ≤ s.size then tailN s i n (n - 1) 1 c else 1 : Nat) : Int)) := by
  have hw : wrap64 ((s.size : Int) - (i : Int)) = (s.size : Int) - (i : Int) := by clear hc; unfold wrap64; omega
  rw [hw]
  by_cases hl : i + n ≤ s.size
  · obtain ⟨v, hv⟩ := utf_tail s i n hn1 hn4 hl hsz (n - 1) 1 c (Nat.le_refl _) (by omega) h0 hc
    rw [decide_eq_false (by clear hc hv; omega), if_pos hl]
    exact ⟨v, Ev.step (fun k => by rw [utf_Next.j1, if_neg (by decide)]; rfl) hv⟩
  · rw [decide_eq_true (by clear hc; omega), if_neg hl]
    exact ⟨-1, Ev.step (fun k => by rw [utf_Next.j1, if_pos rfl]; rfl) (Ev.now _)⟩
theorem utf_next (s : ByteArray) (i : Nat) (hi : i < s.size) (hsz : s.size ≤ 1000000000000) : ∃ v, Ev (fun k => utf_Next.f k s (i : Int)) (v, (nx s i : Int)) := by
  have hb := bt_range s (i : Int)
  have hl := lead_f _ hb.1 hb.2
  have key : ∃ v, Ev (fun k => (utf_lead.f (bt s (i : Int))).bind fun q => (if q.1 = 0 then (utf_Next.j1 k s (i : Int) q.1 q.2 true) else (utf_Next.j1 k s (i : Int) q.1 q.2 (decide (q.1 > wrap64 ((s.size : Int) - (i : Int))))))) (v, (nx s i : Int)) := by
    unfold nx
    generalize bt s (i : Int) = b at hb hl ⊢
    by_cases c1 : b < 128
    · rw [if_pos c1] at hl
      obtain ⟨v, hv⟩ := utf_head s i 1 b (by omega) (by omega) hi hsz hb.1 (by show b < 128 * 64 ^ 3; have : (128 * 64 ^ 3 : Int) = 33554432 := (by decide); omega)
      rw [if_pos (show i + 1 ≤ s.size by omega), show (1 : Nat) - 1 = 0 from rfl, tailN, if_pos (by simp [okCp, lim]; omega)] at hv
      rw [if_pos c1]
      exact ⟨v, Ev.bindc hl (Ev.no (fun h => absurd h (by dsimp only; omega)) hv)⟩
    · rw [if_neg c1] at hl ⊢
      by_cases c2 : 192 ≤ b ∧ b < 224
      · rw [if_pos c2] at hl ⊢
        obtain ⟨v, hv⟩ := utf_head s i 2 (b % 32) (by omega) (by omega) hi hsz (by omega) (by rw [p64_2]; omega)
        exact ⟨v, Ev.bindc hl (Ev.no (fun h => absurd h (by dsimp only; omega)) hv)⟩
      · rw [if_neg c2] at hl ⊢
        by_cases c3 : 224 ≤ b ∧ b < 240
        · rw [if_pos c3] at hl ⊢
          obtain ⟨v, hv⟩ := utf_head s i 3 (b % 16) (by omega) (by omega) hi hsz (by omega) (by rw [p64_3]; omega)
          exact ⟨v, Ev.bindc hl (Ev.no (fun h => absurd h (by dsimp only; omega)) hv)⟩
        · rw [if_neg c3] at hl ⊢
          by_cases c4 : 240 ≤ b ∧ b < 248
          · rw [if_pos c4] at hl ⊢
            obtain ⟨v, hv⟩ := utf_head s i 4 (b % 8) (by omega) (by omega) hi hsz (by omega) (by rw [p64_4]; omega)
            exact ⟨v, Ev.bindc hl (Ev.no (fun h => absurd h (by dsimp only; omega)) hv)⟩
          · rw [if_neg c4] at hl ⊢
            exact ⟨-1, Ev.bindc hl (Ev.yes rfl (Ev.step (fun k => by rw [utf_Next.j1, if_pos rfl]; rfl) (Ev.now _)))⟩
  obtain ⟨v, hv⟩ := key
  refine ⟨v, Ev.congr (fun k => by rw [utf_Next.f, if_neg (by omega), decide_eq_false (by omega)]) (Ev.step (fun k => ?_) hv)⟩
  rw [utf_Next.j0, if_neg (by decide), if_pos (by omega), if_pos (by omega)]
theorem ref_head (s : ByteArray) (i n : Nat) (c : Int) (hn1 : 1 ≤ n) (hn4 : n ≤ 4) (hi : i < s.size) (hsz : s.size ≤ 1000000000000) (h0 : 0 ≤ c) (hc : c < 128 * 64 ^ (3 - (n - 1))) :
    ∃ v, Ev (fun k => galleyref1_Next.j3 k s (i : Int) c (n : Int) (lim n)) (v, ((if i + n ≤ s.size then tailN s i n (n - 1) 1 c else 1 : Nat) : Int)) := by
  have hw : wrap64 ((s.size : Int) - (i : Int)) = (s.size : Int) - (i : Int) := by clear hc; unfold wrap64; omega
  by_cases hl : i + n ≤ s.size
  · obtain ⟨v, hv⟩ := ref_tail s i n hn4 hl hsz (n - 1) 1 c (Nat.le_refl _) (by omega) h0 hc
    rw [if_pos hl]
    refine ⟨v, Ev.step (fun k => ?_) hv⟩
    clear hc hv
    rw [galleyref1_Next.j3, hw, if_neg (by omega)]
    rfl
  · rw [if_neg hl]
    refine ⟨-1, Ev.step (fun k => ?_) (Ev.now _)⟩
    clear hc
    rw [galleyref1_Next.j3, hw, if_pos (by omega)]
    rfl
theorem ref_next (s : ByteArray) (i : Nat) (hi : i < s.size) (hsz : s.size ≤ 1000000000000) : ∃ v, Ev (fun k => galleyref1_Next.f k s (i : Int)) (v, (nx s i : Int)) := by
  have hb := bt_range s (i : Int)
  have hw : wrap64 (bt s (i : Int)) = bt s (i : Int) := by unfold wrap64; omega
  have key : ∃ v, Ev (fun k => (if (bt s (i : Int)) < 128 then (some (bt s (i : Int), 1)) else (if (bt s (i : Int)) ≥ 192 then (galleyref1_Next.j1 k s (i : Int) (bt s (i : Int)) (decide ((bt s (i : Int)) < 224))) else (galleyref1_Next.j1 k s (i : Int) (bt s (i : Int)) false)))) (v, (nx s i : Int)) := by
    unfold nx
    generalize bt s (i : Int) = b at hb hw ⊢
    clear hw
    have a31 := i64_and31 b hb.1 (by omega)
    have a15 := i64_and15 b hb.1 (by omega)
    have a7 := i64_and7 b hb.1 (by omega)
    by_cases c1 : b < 128
    · rw [if_pos c1]
      exact ⟨b, Ev.yes c1 (Ev.now _)⟩
    · rw [if_neg c1]
      by_cases c2 : 192 ≤ b ∧ b < 224
      · rw [if_pos c2]
        obtain ⟨v, hv⟩ := ref_head s i 2 (b % 32) (by omega) (by omega) hi hsz (by omega) (by rw [p64_2]; omega)
        exact ⟨v, Ev.no c1 (Ev.yes c2.1 (Ev.step (fun k => by rw [galleyref1_Next.j1, if_pos (decide_eq_true c2.2), a31]; rfl) hv))⟩
      · have hj : ∃ v, Ev (fun k => if b ≥ 224 then (galleyref1_Next.j2 k s (i : Int) b (decide (b < 240))) else (galleyref1_Next.j2 k s (i : Int) b false)) (v, ((if 224 ≤ b ∧ b < 240 then (if i + 3 ≤ s.size then tailN s i 3 2 1 (b % 16) else 1) else if 240 ≤ b ∧ b < 248 then (if i + 4 ≤ s.size then tailN s i 4 3 1 (b % 8) else 1) else 1 : Nat) : Int)) := by
          by_cases c3 : 224 ≤ b ∧ b < 240
          · rw [if_pos c3]
            obtain ⟨v, hv⟩ := ref_head s i 3 (b % 16) (by omega) (by omega) hi hsz (by omega) (by rw [p64_3]; omega)
            exact ⟨v, Ev.yes c3.1 (Ev.step (fun k => by rw [galleyref1_Next.j2, if_pos (decide_eq_true c3.2), a15]; rfl) hv)⟩
          · rw [if_neg c3]
            have hk : ∃ v, Ev (fun k => if b ≥ 240 then (if b < 248 then (galleyref1_Next.j3 k s (i : Int) (Go.bits .and .i64 b 7) 4 65536) else (some ((-1), 1))) else (some ((-1), 1))) (v, ((if 240 ≤ b ∧ b < 248 then (if i + 4 ≤ s.size then tailN s i 4 3 1 (b % 8) else 1) else 1 : Nat) : Int)) := by
              by_cases c4 : 240 ≤ b ∧ b < 248
              · rw [if_pos c4]
                obtain ⟨v, hv⟩ := ref_head s i 4 (b % 8) (by omega) (by omega) hi hsz (by omega) (by rw [p64_4]; omega)
                exact ⟨v, Ev.yes c4.1 (Ev.yes c4.2 (Ev.congr (fun k => by rw [a7]; rfl) hv))⟩
              · rw [if_neg c4]
                by_cases c5 : b ≥ 240
                · exact ⟨-1, Ev.yes c5 (Ev.no (by omega) (Ev.now _))⟩
                · exact ⟨-1, Ev.no c5 (Ev.now _)⟩
            obtain ⟨v, hv⟩ := hk
            by_cases c5 : b ≥ 224
            · exact ⟨v, Ev.yes c5 (Ev.step (fun k => by rw [galleyref1_Next.j2, if_neg (fun h => c3 ⟨c5, of_decide_eq_true h⟩)]) hv)⟩
            · exact ⟨v, Ev.no c5 (Ev.step (fun k => by rw [galleyref1_Next.j2, if_neg (by decide)]) hv)⟩
        rw [if_neg c2]
        obtain ⟨v, hv⟩ := hj
        by_cases c6 : b ≥ 192
        · exact ⟨v, Ev.no c1 (Ev.yes c6 (Ev.step (fun k => by rw [galleyref1_Next.j1, if_neg (fun h => c2 ⟨c6, of_decide_eq_true h⟩)]) hv))⟩
        · exact ⟨v, Ev.no c1 (Ev.no c6 (Ev.step (fun k => by rw [galleyref1_Next.j1, if_neg (by decide)]) hv))⟩
  obtain ⟨v, hv⟩ := key
  refine ⟨v, Ev.congr (fun k => by rw [galleyref1_Next.f, if_neg (by omega), decide_eq_false (by omega)]) (Ev.step (fun k => ?_) hv)⟩
  rw [galleyref1_Next.j0, if_neg (by decide), if_pos (by omega), if_pos (by omega), hw]
theorem cwF_stop (s : ByteArray) (i : Nat) (h : s.size ≤ i) : ∀ k, cwF s k i = 0
  | 0 => rfl
  | k + 1 => by rw [cwF, if_neg (by omega)]
theorem countU_at (s : ByteArray) (hsz : s.size ≤ 1000000000000) : ∀ (m i c : Nat), s.size ≤ i + m → i ≤ s.size + 4 → c ≤ i → Ev (fun k => utf_Count.l0 k s (c : Int) (i : Int)) ((c + cwF s m i : Nat) : Int)
  | m, i, c, hm, hi, hc => by
    by_cases hl : i < s.size
    · obtain ⟨m, rfl⟩ : ∃ j, m = j + 1 := ⟨m - 1, by omega⟩
      have hp := nx_pos s i
      obtain ⟨v, hv⟩ := utf_next s i hl hsz
      have ih := countU_at s hsz m (i + nx s i) (c + 1) (by omega) (by omega) (by omega)
      refine Ev.step (f := fun k => (utf_Next.f k s (i : Int)).bind fun q => utf_Count.l0 k s (wrap64 ((c : Int) + 1)) (wrap64 ((i : Int) + q.2))) (fun k => by rw [utf_Count.l0, if_pos (by omega)]) (Ev.bind hv ?_)
      have e1 : wrap64 ((c : Int) + 1) = ((c + 1 : Nat) : Int) := by unfold wrap64; omega
      have e2 : wrap64 ((i : Int) + (nx s i : Int)) = ((i + nx s i : Nat) : Int) := by unfold wrap64; omega
      have e3 : c + cwF s (m + 1) i = c + 1 + cwF s m (i + nx s i) := by rw [cwF, if_pos hl]; omega
      rw [e3]
      show Ev (fun k => utf_Count.l0 k s (wrap64 ((c : Int) + 1)) (wrap64 ((i : Int) + (nx s i : Int)))) _
      rw [e1, e2]
      exact ih
    · rw [cwF_stop s i (by omega)]
      exact Ev.step (fun k => by rw [utf_Count.l0, if_neg (by omega)]; rfl) (Ev.now _)
theorem countR_at (s : ByteArray) (hsz : s.size ≤ 1000000000000) : ∀ (m i c : Nat), s.size ≤ i + m → i ≤ s.size + 4 → c ≤ i → Ev (fun k => galleyref1_Count.l0 k s (c : Int) (i : Int)) ((c + cwF s m i : Nat) : Int)
  | m, i, c, hm, hi, hc => by
    by_cases hl : i < s.size
    · obtain ⟨m, rfl⟩ : ∃ j, m = j + 1 := ⟨m - 1, by omega⟩
      have hp := nx_pos s i
      obtain ⟨v, hv⟩ := ref_next s i hl hsz
      have ih := countR_at s hsz m (i + nx s i) (c + 1) (by omega) (by omega) (by omega)
      refine Ev.step (f := fun k => (galleyref1_Next.f k s (i : Int)).bind fun q => galleyref1_Count.l0 k s (wrap64 ((c : Int) + 1)) (wrap64 ((i : Int) + q.2))) (fun k => by rw [galleyref1_Count.l0, if_pos (by omega)]) (Ev.bind hv ?_)
      have e1 : wrap64 ((c : Int) + 1) = ((c + 1 : Nat) : Int) := by unfold wrap64; omega
      have e2 : wrap64 ((i : Int) + (nx s i : Int)) = ((i + nx s i : Nat) : Int) := by unfold wrap64; omega
      have e3 : c + cwF s (m + 1) i = c + 1 + cwF s m (i + nx s i) := by rw [cwF, if_pos hl]; omega
      rw [e3]
      show Ev (fun k => galleyref1_Count.l0 k s (wrap64 ((c : Int) + 1)) (wrap64 ((i : Int) + (nx s i : Int)))) _
      rw [e1, e2]
      exact ih
    · rw [cwF_stop s i (by omega)]
      exact Ev.step (fun k => by rw [galleyref1_Count.l0, if_neg (by omega)]; rfl) (Ev.now _)
theorem countU (s : ByteArray) (hsz : s.size ≤ 1000000000000) : Ev (fun k => utf_Count.f k s) (cw s : Int) := by
  have h := countU_at s hsz s.size 0 0 (by omega) (by omega) (by omega)
  rw [Nat.zero_add] at h
  exact h
theorem countR (s : ByteArray) (hsz : s.size ≤ 1000000000000) : Ev (fun k => galleyref1_Count.f k s) (cw s : Int) := by
  have h := countR_at s hsz s.size 0 0 (by omega) (by omega) (by omega)
  rw [Nat.zero_add] at h
  exact h
theorem width_calls (s : ByteArray) (hsz : s.size ≤ 1000000000000) (w : World) : Calls Try.prog 40 #[.string s] w fun e w' => e = .returned (.int .i64 (cw s)) ∧ Below w.heap.size w w' := by
  obtain ⟨k, hk⟩ := (Ev.bind (countU s hsz) (Ev.now (cw s : Int)) : Ev (fun k => cell_Width.f k s) (cw s : Int)).rounds
  exact cell_Width.calls k s _ w hk
end Go.Proofs.Ytigihiggpfjbjaa.PR

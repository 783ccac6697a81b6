/- TreeTurned: the turned tree, plain. -/
import Derived.Test.YtjlnlonioknkhaaHT1
namespace Go.Proofs.Ytjlnlonioknkhaa.PA
open Go.RowKit Go.Proofs.YtjlnlonioknkhaaW.PrintWords Go.Proofs.YtjlnlonioknkhaaW.PrintLast Go.Proofs.YtjlnlonioknkhaaW.PrintMore
set_option linter.unusedVariables false
set_option linter.unusedSimpArgs false

theorem ofInt_wrap (z : BitVec 64) : BitVec.ofInt 64 (IntKind.i64.wrap (z.toNat : Int)) = z := by
  apply BitVec.eq_of_toNat_eq
  rw [BitVec.toNat_ofInt, i64_w]
  have := z.isLt
  unfold wrap64
  omega
theorem xor1_ne (a : Int) : Go.bits .xor .i64 a 1 ≠ a := by
  intro h
  have h1 := congrArg (BitVec.ofInt 64) h
  unfold Go.bits at h1
  have h2 : BitVec.ofInt 64 a ^^^ BitVec.ofInt 64 1 = BitVec.ofInt 64 a := (ofInt_wrap _).symm.trans h1
  have h3 := congrArg (fun v : BitVec 64 => v.getLsbD 0) h2
  simp at h3
/-- One part of a node turned; kx: its kind turned. -/
def ownT (kx : Int → Int) (x : S26) (p : Nat) : S26 :=
  match p with
  | 0 => ⟨kx x.f0, x.f1, x.f2, x.f3, x.f4, x.f5, x.f6⟩
  | 1 => ⟨x.f0, x.f1 ++ (⟨#[120]⟩ : ByteArray), x.f2, x.f3, x.f4, x.f5, x.f6⟩
  | 2 => ⟨x.f0, x.f1, x.f2, x.f3, !x.f4, x.f5, x.f6⟩
  | 3 => ⟨x.f0, x.f1, x.f2, x.f3, x.f4, x.f5 ++ [(⟨#[37]⟩ : ByteArray)], x.f6⟩
  | 4 => ⟨x.f0, x.f1, x.f2, x.f3, x.f4, x.f5, x.f6 ++ [(⟨#[37]⟩ : ByteArray)]⟩
  | 5 => ⟨x.f0, x.f1, x.f2 ++ [⟨0, ⟨#[]⟩, [], false, false, [], []⟩], x.f3, x.f4, x.f5, x.f6⟩
  | _ => ⟨x.f0, x.f1, x.f2, !x.f3, x.f4, x.f5, x.f6⟩
mutual
def turnV (kx : Int → Int) : S26 → Nat → Nat → S26
  | ⟨a, b, l, c, d, e, f⟩, k, p => if k = 0 then ownT kx ⟨a, b, l, c, d, e, f⟩ p else ⟨a, b, turnL kx l (k - 1) p, c, d, e, f⟩
def turnL (kx : Int → Int) : List S26 → Nat → Nat → List S26
  | [], _, _ => []
  | x :: r, k, p => if k < (pre x).length then turnV kx x k p :: r else x :: turnL kx r (k - (pre x).length) p
end
theorem turnV_eq (kx : Int → Int) (x : S26) (k p : Nat) : turnV kx x k p = if k = 0 then ownT kx x p else ⟨x.f0, x.f1, turnL kx x.f2 (k - 1) p, x.f3, x.f4, x.f5, x.f6⟩ := by cases x; rfl
mutual
theorem likeB_refl (b : Bool) : ∀ x : S26, likeB b x x = true
  | ⟨a, s, l, c, d, e, f⟩ => by
    rw [likeB_eq]
    simp [sEq_refl, likeL_refl b l]
theorem likeL_refl (b : Bool) : ∀ l : List S26, likeL b l l = true
  | [] => by simp [likeL]
  | x :: r => by simp [likeL, likeB_refl b x, likeL_refl b r]
end
theorem sEq_longer (l : List ByteArray) (s : ByteArray) : sEq l (l ++ [s]) = false ∧ sEq (l ++ [s]) l = false := ⟨sEq_of_len _ _ (by simp), sEq_of_len _ _ (by simp)⟩
theorem bytes_longer (s : ByteArray) (c : UInt8) : (s.toList == (s ++ (⟨#[c]⟩ : ByteArray)).toList) = false ∧ ((s ++ (⟨#[c]⟩ : ByteArray)).toList == s.toList) = false := by
  have h : (s ++ (⟨#[c]⟩ : ByteArray)).toList ≠ s.toList := by
    intro h
    have h1 := congrArg List.length h
    have e1 : ∀ t : ByteArray, t.toList.length = t.size := fun t => by rw [ByteArray.toList_eq]; exact Array.length_toList
    rw [e1, e1, ByteArray.size_append] at h1
    have h2 : (⟨#[c]⟩ : ByteArray).size = 1 := rfl
    omega
  exact ⟨beq_eq_false_iff_ne.mpr (fun e => h e.symm), beq_eq_false_iff_ne.mpr h⟩
theorem ownT_like (kx : Int → Int) (hk : ∀ a, kx a ≠ a) (b : Bool) (x : S26) (p : Nat) (hp : p < 7) :
    likeB b x (ownT kx x p) = (!b && decide (p = 6)) ∧ likeB b (ownT kx x p) x = (!b && decide (p = 6)) := by
  have l1 : ∀ z : S26, likeL b x.f2 (x.f2 ++ [z]) = false ∧ likeL b (x.f2 ++ [z]) x.f2 = false := fun z => ⟨likeL_of_len b _ _ (by simp), likeL_of_len b _ _ (by simp)⟩
  have s5 := sEq_longer x.f5 (⟨#[37]⟩ : ByteArray)
  have s6 := sEq_longer x.f6 (⟨#[37]⟩ : ByteArray)
  have bl := bytes_longer x.f1 120
  have h0 : (x.f0 == kx x.f0) = false ∧ (kx x.f0 == x.f0) = false := ⟨beq_eq_false_iff_ne.mpr (fun e => hk _ e.symm), beq_eq_false_iff_ne.mpr (hk _)⟩
  rw [likeB_eq, likeB_eq]
  match p, hp with
  | 0, _ => simp [ownT, h0.1, h0.2]
  | 1, _ => simp only [ownT, bl.1, bl.2]; simp
  | 2, _ => cases h : x.f4 <;> simp [ownT, h]
  | 3, _ => simp [ownT, s5.1, s5.2]
  | 4, _ => simp [ownT, s6.1, s6.2]
  | 5, _ => simp [ownT, (l1 _).1, (l1 _).2]
  | 6, _ => cases b <;> cases h : x.f3 <;> simp [ownT, h, sEq_refl, likeL_refl]
mutual
theorem turn_like (kx : Int → Int) (hk : ∀ a, kx a ≠ a) (b : Bool) : ∀ (x : S26) (k p : Nat), k < (pre x).length → p < 7 → likeB b x (turnV kx x k p) = (!b && decide (p = 6)) ∧ likeB b (turnV kx x k p) x = (!b && decide (p = 6))
  | ⟨a, s, l, c, d, e, f⟩, k, p, hlt, hp => by
    rw [turnV_eq]
    by_cases h0 : k = 0
    · rw [if_pos h0]
      exact ownT_like kx hk b _ p hp
    · rw [if_neg h0]
      have h1 : k - 1 < (preL l).length := by
        rw [pre_eq, List.length_cons] at hlt
        have : k < (preL l).length + 1 := hlt
        omega
      obtain ⟨h2, h3⟩ := turnL_like kx hk b l (k - 1) p h1 hp
      rw [likeB_eq, likeB_eq]
      simp only [beq_self_eq_true, sEq_refl, Bool.or_true, Bool.true_and, h2, h3]
      simp
theorem turnL_like (kx : Int → Int) (hk : ∀ a, kx a ≠ a) (b : Bool) : ∀ (l : List S26) (k p : Nat), k < (preL l).length → p < 7 → likeL b l (turnL kx l k p) = (!b && decide (p = 6)) ∧ likeL b (turnL kx l k p) l = (!b && decide (p = 6))
  | [], k, p, hlt, hp => by simp [preL] at hlt
  | x :: r, k, p, hlt, hp => by
    unfold turnL
    by_cases h : k < (pre x).length
    · rw [if_pos h]
      obtain ⟨h2, h3⟩ := turn_like kx hk b x k p h hp
      simp only [likeL, h2, h3, likeL_refl, Bool.and_true]
      simp
    · rw [if_neg h]
      have h1 : k - (pre x).length < (preL r).length := by
        have : k < (pre x).length + (preL r).length := by simpa [preL] using hlt
        omega
      obtain ⟨h2, h3⟩ := turnL_like kx hk b r (k - (pre x).length) p h1 hp
      simp only [likeL, h2, h3, likeB_refl, Bool.true_and]
      simp
end
theorem turnL_length (kx : Int → Int) : ∀ (l : List S26) (k p : Nat), (turnL kx l k p).length = l.length
  | [], _, _ => rfl
  | x :: r, k, p => by
    unfold turnL
    split
    · rfl
    · simp [turnL_length kx r]
end Go.Proofs.Ytjlnlonioknkhaa.PA

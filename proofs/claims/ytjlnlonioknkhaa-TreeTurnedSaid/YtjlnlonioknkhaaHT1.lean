/- Contracts over trees, as the walks use them. -/
import Derived.Test.YtjlnlonioknkhaaHP2
import Derived.Test.YtjlnlonioknkhaaHLit
import Derived.Test.YtjlnlonioknkhaaPAx6
import Derived.Test.YtjlnlonioknkhaaPAx8
import Derived.Test.YtjlnlonioknkhaaPAx14
import Derived.Test.YtjlnlonioknkhaaPAx12
namespace Go.Proofs.Ytjlnlonioknkhaa.PA
open Go.RowKit Go.Proofs.YtjlnlonioknkhaaW.PrintWords Go.Proofs.YtjlnlonioknkhaaW.PrintLast Go.Proofs.YtjlnlonioknkhaaW.PrintMore
set_option linter.unusedVariables false
set_option linter.unusedSimpArgs false

section
variable {w : World} {x y : S26} {A2 : Option Addr} {c2 : Nat} {A5 : Option Addr} {c5 : Nat} {A6 : Option Addr} {c6 : Nat} {B2 : Option Addr} {d2 : Nat} {B5 : Option Addr} {d5 : Nat} {B6 : Option Addr} {d6 : Nat}
theorem few10_of (b : Bool) (h : Nd w x A2 c2 A5 c5 A6 c6) (e : decide (fewV x 40 ≤ 400) = b) : Calls Try.prog 14 #[.agg #[.int .i64 x.f0, .string x.f1, .slice A2 x.f2.length c2, .bool x.f3, .bool x.f4, .slice A5 x.f5.length c5, .slice A6 x.f6.length c6]] w fun e w' => e = .returned (.bool b) ∧ Below w.heap.size w w' := by
  subst e
  obtain ⟨k, hk⟩ := (Few10 x).rounds
  exact galleylaw10_Few.calls k _ _ _ _ _ _ _ _ _ _ _ _ _ _ w h.g2 h.l2 h.g5 h.l5 h.g6 h.l6 hk
theorem cnt10_of (n : Int) (h : Nd w x A2 c2 A5 c5 A6 c6) (e : wrap64 (pre x).length = n) : Calls Try.prog 19 #[.agg #[.int .i64 x.f0, .string x.f1, .slice A2 x.f2.length c2, .bool x.f3, .bool x.f4, .slice A5 x.f5.length c5, .slice A6 x.f6.length c6]] w fun e w' => e = .returned (.int .i64 n) ∧ Below w.heap.size w w' := by
  subst e
  exact count_calls x _ _ _ _ _ _ w h.g2
theorem cnt9_of (n : Int) (h : Nd w x A2 c2 A5 c5 A6 c6) (hx : Fin26 x) (e : wrap64 (pre x).length = n) : Calls Try.prog (20) #[.agg #[.int .i64 x.f0, .string x.f1, .slice A2 x.f2.length c2, .bool x.f3, .bool x.f4, .slice A5 x.f5.length c5, .slice A6 x.f6.length c6]] w fun e w' => e = .returned (.int .i64 n) ∧ Below w.heap.size w w' := by
  subst e
  obtain ⟨k, hk⟩ := (count9 _ x (Nat.le_refl _) hx).rounds
  exact galleyref9_Count.calls k _ _ _ _ _ _ _ _ _ _ _ _ _ _ w h.g2 h.l2 h.g5 h.l5 h.g6 h.l6 hk
theorem lits10_of (n : Nat) (h : Nd w x A2 c2 A5 c5 A6 c6) (hb : (lits (pre x)).length = n) (hn : n ≤ 8796093022208) : Calls Try.prog 12 #[.agg #[.int .i64 x.f0, .string x.f1, .slice A2 x.f2.length c2, .bool x.f3, .bool x.f4, .slice A5 x.f5.length c5, .slice A6 x.f6.length c6]] w fun e w' => ∃ (A : Option Addr) (c : Nat), e = .returned (.slice A n c) ∧ Below w.heap.size w w' := by
  subst hb
  refine (lits_calls x _ _ _ _ _ _ w h.g2 hn).mono ?_
  rintro e w' ⟨v, rfl, hr, hb⟩
  obtain ⟨A, c, rfl⟩ := Kd.R_slice hr
  exact ⟨A, c, rfl, hb⟩
theorem nts10_of (n : Nat) (h : Nd w x A2 c2 A5 c5 A6 c6) (hx : Fin26 x) (hb : (nts x).length = n) (hn : n < 8796093022208) : Calls Try.prog 13 #[.agg #[.int .i64 x.f0, .string x.f1, .slice A2 x.f2.length c2, .bool x.f3, .bool x.f4, .slice A5 x.f5.length c5, .slice A6 x.f6.length c6]] w fun e w' => ∃ (A : Option Addr) (c : Nat), e = .returned (.slice A n c) ∧ (Kd.C Kd.string w' A (nts x).length (nts x) ∧ n ≤ c) ∧ Below w.heap.size w w' := by
  subst hb
  obtain ⟨k, hk⟩ := (notesT _ x (Nat.le_refl _) hx hn).rounds
  refine (tree_Notes.calls k _ _ _ _ _ _ _ _ _ _ _ _ _ _ w h.g2 h.l2 h.g5 h.l5 h.g6 h.l6 hk).mono ?_
  rintro e w' ⟨v, rfl, hr, hb⟩
  obtain ⟨A, c, rfl⟩ := Kd.R_slice hr
  obtain ⟨_, q, g⟩ := Kd.R_reads' hr
  exact ⟨A, c, rfl, ⟨g, q⟩, hb⟩
theorem frc10_of (b : Bool) (h : Nd w x A2 c2 A5 c5 A6 c6) (e : (pre x).any forced1 = b) : Calls Try.prog 24 #[.agg #[.int .i64 x.f0, .string x.f1, .slice A2 x.f2.length c2, .bool x.f3, .bool x.f4, .slice A5 x.f5.length c5, .slice A6 x.f6.length c6]] w fun e w' => e = .returned (.bool b) ∧ Below w.heap.size w w' := by
  subst e
  exact forced_calls x _ _ _ _ _ _ w h.g2
theorem like10_of (b : Bool) (h : Nd w x A2 c2 A5 c5 A6 c6) (h' : Nd w y B2 d2 B5 d5 B6 d6) (e : likeB false x y = b) : Calls Try.prog 17 #[.agg #[.int .i64 x.f0, .string x.f1, .slice A2 x.f2.length c2, .bool x.f3, .bool x.f4, .slice A5 x.f5.length c5, .slice A6 x.f6.length c6], .agg #[.int .i64 y.f0, .string y.f1, .slice B2 y.f2.length d2, .bool y.f3, .bool y.f4, .slice B5 y.f5.length d5, .slice B6 y.f6.length d6]] w fun e w' => e = .returned (.bool b) ∧ Below w.heap.size w w' := by
  subst e
  exact tree_Like.calls _ _ _ _ _ _ _ _ _ _ _ _ _ _ _ _ _ _ _ _ _ _ _ _ _ _ _ w h.g2 h.l2 h.g5 h.l5 h.g6 h.l6 h'.g2 h'.l2 h'.g5 h'.l5 h'.g6 h'.l6 (likeT x y)
theorem same10_of (b : Bool) (h : Nd w x A2 c2 A5 c5 A6 c6) (h' : Nd w y B2 d2 B5 d5 B6 d6) (e : likeB true x y = b) : Calls Try.prog (15) #[.agg #[.int .i64 x.f0, .string x.f1, .slice A2 x.f2.length c2, .bool x.f3, .bool x.f4, .slice A5 x.f5.length c5, .slice A6 x.f6.length c6], .agg #[.int .i64 y.f0, .string y.f1, .slice B2 y.f2.length d2, .bool y.f3, .bool y.f4, .slice B5 y.f5.length d5, .slice B6 y.f6.length d6]] w fun e w' => e = .returned (.bool b) ∧ Below w.heap.size w w' := by
  subst e
  exact tree_Same.calls _ _ _ _ _ _ _ _ _ _ _ _ _ _ _ _ _ _ _ _ _ _ _ _ _ _ _ w h.g2 h.l2 h.g5 h.l5 h.g6 h.l6 h'.g2 h'.l2 h'.g5 h'.l5 h'.g6 h'.l6 (sameT x y)
theorem like9_of (b : Bool) (h : Nd w x A2 c2 A5 c5 A6 c6) (h' : Nd w y B2 d2 B5 d5 B6 d6) (hx : Fin26 x) (e : likeB false x y = b) : Calls Try.prog 18 #[.agg #[.int .i64 x.f0, .string x.f1, .slice A2 x.f2.length c2, .bool x.f3, .bool x.f4, .slice A5 x.f5.length c5, .slice A6 x.f6.length c6], .agg #[.int .i64 y.f0, .string y.f1, .slice B2 y.f2.length d2, .bool y.f3, .bool y.f4, .slice B5 y.f5.length d5, .slice B6 y.f6.length d6]] w fun e w' => e = .returned (.bool b) ∧ Below w.heap.size w w' := by
  subst e
  obtain ⟨k, hk⟩ := (Like9 x y hx).rounds
  exact galleyref9_Like.calls k _ _ _ _ _ _ _ _ _ _ _ _ _ _ _ _ _ _ _ _ _ _ _ _ _ _ _ w h.g2 h.l2 h.g5 h.l5 h.g6 h.l6 h'.g2 h'.l2 h'.g5 h'.l5 h'.g6 h'.l6 hk
end
def SE (ad : Addr) (i : Nat) (y : S26) (A2 : Option Addr) (c2 : Nat) (A5 : Option Addr) (c5 : Nat) (A6 : Option Addr) (c6 : Nat) (w' : World) : Prop :=
  w'.cell? (ad.add (i * 7)) = some (.int .i64 y.f0) ∧ w'.cell? ⟨(ad.add (i * 7)).block, (ad.add (i * 7)).off + 1, none⟩ = some (.string y.f1) ∧ w'.cell? ⟨(ad.add (i * 7)).block, (ad.add (i * 7)).off + 2, none⟩ = some (.slice A2 y.f2.length c2) ∧
  w'.cell? ⟨(ad.add (i * 7)).block, (ad.add (i * 7)).off + 3, none⟩ = some (.bool y.f3) ∧ w'.cell? ⟨(ad.add (i * 7)).block, (ad.add (i * 7)).off + 4, none⟩ = some (.bool y.f4) ∧
  w'.cell? ⟨(ad.add (i * 7)).block, (ad.add (i * 7)).off + 5, none⟩ = some (.slice A5 y.f5.length c5) ∧ w'.cell? ⟨(ad.add (i * 7)).block, (ad.add (i * 7)).off + 6, none⟩ = some (.slice A6 y.f6.length c6)
theorem fin26_of {l : List S26} (h : ∀ j (hj : j < l.length), Fin26 l[j]) : ∀ y ∈ preL l, y.f2.length ≤ 9223372036854775807 ∧ y.f5.length ≤ 9223372036854775807 ∧ y.f6.length ≤ 9223372036854775807 := by
  induction l with
  | nil => intro y hy; simp [preL] at hy
  | cons x r ih =>
    intro y hy
    simp only [preL, List.mem_append] at hy
    rcases hy with hy | hy
    · exact h 0 (by simp) y hy
    · exact ih (fun j hj => h (j + 1) (by simp; omega)) y hy
end Go.Proofs.Ytjlnlonioknkhaa.PA

/- Printed by this session's driver of the kit's printer (stubbed functions are proved by hand). Lean checks it. -/
import Derived.Test.YtigihiggpfjbjaaPRx0
import Derived.Test.YtigihiggpfjbjaaHLeast
namespace Go.Proofs.Ytigihiggpfjbjaa.PR
open Go.RowKit Go.Proofs.YtigihiggpfjbjaaW.PrintWords Go.Proofs.YtigihiggpfjbjaaW.PrintLast Go.Proofs.YtigihiggpfjbjaaW.PrintMore
attribute [local go_sem] max2_int min2_int max_two min_two max_three min_three max_four min_four   -- for this text's walks alone
set_option linter.unusedVariables false
set_option linter.unusedSimpArgs false

-- HAND utf_least
/-! ### utf_least: function 56 -/
def utf_least.f (a0 : Int) : Option (Int) := if a0 = 1 then some 0 else if a0 = 2 then some 128 else if a0 = 3 then some 2048 else if a0 = 4 then some 65536 else none
theorem utf_least.calls (a0 : Int) (r : Int) (w : World) (h : utf_least.f a0 = some r) :
    Calls Try.prog 56 #[.int .i64 a0] w fun e w' => e = .returned (.int .i64 r) ∧ Below w.heap.size w w' := by
  unfold utf_least.f at h
  by_cases h1 : a0 = 1
  · subst h1
    obtain rfl : (0 : Int) = r := Option.some.inj h
    exact least_calls 1 0 w (Or.inl ⟨rfl, rfl⟩)
  · rw [if_neg h1] at h
    by_cases h2 : a0 = 2
    · subst h2
      obtain rfl : (128 : Int) = r := Option.some.inj h
      exact least_calls 2 128 w (Or.inr (Or.inl ⟨rfl, rfl⟩))
    · rw [if_neg h2] at h
      by_cases h3 : a0 = 3
      · subst h3
        obtain rfl : (2048 : Int) = r := Option.some.inj h
        exact least_calls 3 2048 w (Or.inr (Or.inr (Or.inl ⟨rfl, rfl⟩)))
      · rw [if_neg h3] at h
        by_cases h4 : a0 = 4
        · subst h4
          obtain rfl : (65536 : Int) = r := Option.some.inj h
          exact least_calls 4 65536 w (Or.inr (Or.inr (Or.inr ⟨rfl, rfl⟩)))
        · rw [if_neg h4] at h
          cases h

end Go.Proofs.Ytigihiggpfjbjaa.PR

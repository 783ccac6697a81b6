/- Printed by this session's driver of the kit's printer (stubbed functions are proved by hand). Lean checks it. -/
import Derived.Test.YtigihiggpfjbjaaPRx0
import Derived.Test.YtigihiggpfjbjaaHShelf
namespace Go.Proofs.Ytigihiggpfjbjaa.PR
open Go.RowKit Go.Proofs.YtigihiggpfjbjaaW.PrintWords Go.Proofs.YtigihiggpfjbjaaW.PrintLast Go.Proofs.YtigihiggpfjbjaaW.PrintMore
attribute [local go_sem] max2_int min2_int max_two min_two max_three min_three max_four min_four   -- for this text's walks alone
set_option linter.unusedVariables false
set_option linter.unusedSimpArgs false

-- HAND strings_Contains
/-! ### strings_Contains: function 51 -/
def strings_Contains.f (a0 : ByteArray) (a1 : ByteArray) : Option (Bool) := if a1 = (⟨#[10]⟩ : ByteArray) then some (decide (0 ≤ Lib.indexByte a0.data.toList 10)) else none
theorem strings_Contains.calls (a0 : ByteArray) (a1 : ByteArray) (r : Bool) (w : World) (h : strings_Contains.f a0 a1 = some r) :
    Calls Try.prog 51 #[.string a0, .string a1] w fun e w' => e = .returned (.bool r) ∧ Below w.heap.size w w' := by
  unfold strings_Contains.f at h
  by_cases e : a1 = (⟨#[10]⟩ : ByteArray)
  · rw [if_pos e] at h
    obtain rfl := Option.some.inj h
    subst e
    refine (Try.strings_Contains_one a0 10 w).mono ?_
    rintro e w' ⟨rfl, rfl⟩
    exact ⟨rfl, Below.refl _ _⟩
  · rw [if_neg e] at h
    cases h

end Go.Proofs.Ytigihiggpfjbjaa.PR

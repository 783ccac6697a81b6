/- Printed by this session's driver of the kit's printer (stubbed functions are proved by hand). Lean checks it. -/
import Derived.Test.YtjlnlonioknkhaaPAx0
import Derived.Test.YtjlnlonioknkhaaHA7
namespace Go.Proofs.Ytjlnlonioknkhaa.PA
open Go.RowKit Go.Proofs.YtjlnlonioknkhaaW.PrintWords Go.Proofs.YtjlnlonioknkhaaW.PrintLast Go.Proofs.YtjlnlonioknkhaaW.PrintMore
attribute [local go_sem] max2_int min2_int max_two min_two max_three min_three max_four min_four   -- for this text's walks alone
set_option linter.unusedVariables false
set_option linter.unusedSimpArgs false

-- HAND galleylaw15_told
/-! ### galleylaw15_told: function 28 -/
def galleylaw15_told.f  : Option (Bool) := some true
theorem galleylaw15_told.calls  (r : Bool) (w : World) (h : galleylaw15_told.f  = some r) :
    Calls Try.prog 28 #[] w fun e w' => e = .returned (.bool r) ∧ Below w.heap.size w w' := by
  obtain rfl := Option.some.inj h
  exact told15_calls w

end Go.Proofs.Ytjlnlonioknkhaa.PA

/- Printed by this session's driver of the kit's printer (stubbed functions are proved by hand). Lean checks it. -/
import Derived.Test.YtjlnlonioknkhaaPAx0
import Derived.Test.YtjlnlonioknkhaaHA3
namespace Go.Proofs.Ytjlnlonioknkhaa.PA
open Go.RowKit Go.Proofs.YtjlnlonioknkhaaW.PrintWords Go.Proofs.YtjlnlonioknkhaaW.PrintLast Go.Proofs.YtjlnlonioknkhaaW.PrintMore
attribute [local go_sem] max2_int min2_int max_two min_two max_three min_three max_four min_four   -- for this text's walks alone
set_option linter.unusedVariables false
set_option linter.unusedSimpArgs false

-- HAND tree_alike
/-! ### tree_alike: function 45 -/
def tree_alike.f (a0_0 : Int) (a0_1 : ByteArray) (l0_2 : List (S26)) (a0_3 : Bool) (a0_4 : Bool) (l0_5 : List ByteArray) (l0_6 : List ByteArray) (a1_0 : Int) (a1_1 : ByteArray) (l1_2 : List (S26)) (a1_3 : Bool) (a1_4 : Bool) (l1_5 : List ByteArray) (l1_6 : List ByteArray) (a2 : Bool) : Option (Bool) := some (likeB a2 ⟨a0_0, a0_1, l0_2, a0_3, a0_4, l0_5, l0_6⟩ ⟨a1_0, a1_1, l1_2, a1_3, a1_4, l1_5, l1_6⟩)
theorem tree_alike.calls (a0_0 : Int) (a0_1 : ByteArray) (A0_2 : Option Addr) (c0_2 : Nat) (l0_2 : List (S26)) (a0_3 : Bool) (a0_4 : Bool) (A0_5 : Option Addr) (c0_5 : Nat) (l0_5 : List ByteArray) (A0_6 : Option Addr) (c0_6 : Nat) (l0_6 : List ByteArray) (a1_0 : Int) (a1_1 : ByteArray) (A1_2 : Option Addr) (c1_2 : Nat) (l1_2 : List (S26)) (a1_3 : Bool) (a1_4 : Bool) (A1_5 : Option Addr) (c1_5 : Nat) (l1_5 : List ByteArray) (A1_6 : Option Addr) (c1_6 : Nat) (l1_6 : List ByteArray) (a2 : Bool) (r : Bool) (w : World) (hr0_2 : Kd.C k26 w A0_2 l0_2.length l0_2) (hc0_2 : l0_2.length ≤ c0_2) (hr0_5 : Kd.C Kd.string w A0_5 l0_5.length l0_5) (hc0_5 : l0_5.length ≤ c0_5) (hr0_6 : Kd.C Kd.string w A0_6 l0_6.length l0_6) (hc0_6 : l0_6.length ≤ c0_6) (hr1_2 : Kd.C k26 w A1_2 l1_2.length l1_2) (hc1_2 : l1_2.length ≤ c1_2) (hr1_5 : Kd.C Kd.string w A1_5 l1_5.length l1_5) (hc1_5 : l1_5.length ≤ c1_5) (hr1_6 : Kd.C Kd.string w A1_6 l1_6.length l1_6) (hc1_6 : l1_6.length ≤ c1_6) (h : tree_alike.f a0_0 a0_1 l0_2 a0_3 a0_4 l0_5 l0_6 a1_0 a1_1 l1_2 a1_3 a1_4 l1_5 l1_6 a2 = some r) :
    Calls Try.prog 45 #[.agg #[.int .i64 a0_0, .string a0_1, .slice A0_2 l0_2.length c0_2, .bool a0_3, .bool a0_4, .slice A0_5 l0_5.length c0_5, .slice A0_6 l0_6.length c0_6], .agg #[.int .i64 a1_0, .string a1_1, .slice A1_2 l1_2.length c1_2, .bool a1_3, .bool a1_4, .slice A1_5 l1_5.length c1_5, .slice A1_6 l1_6.length c1_6], .bool a2] w fun e w' => e = .returned (.bool r) ∧ Below w.heap.size w w' := by
  obtain rfl := Option.some.inj h
  exact alike_calls a2 ⟨a0_0, a0_1, l0_2, a0_3, a0_4, l0_5, l0_6⟩ ⟨a1_0, a1_1, l1_2, a1_3, a1_4, l1_5, l1_6⟩ A0_2 c0_2 A0_5 c0_5 A0_6 c0_6 A1_2 c1_2 A1_5 c1_5 A1_6 c1_6 w ⟨hr0_2, hc0_2, hr0_5, hc0_5, hr0_6, hc0_6⟩ ⟨hr1_2, hc1_2, hr1_5, hc1_5, hr1_6, hc1_6⟩

end Go.Proofs.Ytjlnlonioknkhaa.PA

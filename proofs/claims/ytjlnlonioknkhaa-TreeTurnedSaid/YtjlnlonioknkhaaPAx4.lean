/- Printed by this session's driver of the kit's printer (stubbed functions are proved by hand). Lean checks it. -/
import Derived.Test.YtjlnlonioknkhaaPAx0
import Derived.Test.YtjlnlonioknkhaaHA2
namespace Go.Proofs.Ytjlnlonioknkhaa.PA
open Go.RowKit Go.Proofs.YtjlnlonioknkhaaW.PrintWords Go.Proofs.YtjlnlonioknkhaaW.PrintLast Go.Proofs.YtjlnlonioknkhaaW.PrintMore
attribute [local go_sem] max2_int min2_int max_two min_two max_three min_three max_four min_four   -- for this text's walks alone
set_option linter.unusedVariables false
set_option linter.unusedSimpArgs false

-- HAND tree_Lits
/-! ### tree_Lits: function 12 -/
def tree_Lits.f (a0_0 : Int) (a0_1 : ByteArray) (l0_2 : List (S26)) (a0_3 : Bool) (a0_4 : Bool) (l0_5 : List ByteArray) (l0_6 : List ByteArray) : Option (List ByteArray) := if (lits (pre ⟨a0_0, a0_1, l0_2, a0_3, a0_4, l0_5, l0_6⟩)).length ≤ 8796093022208 then some (lits (pre ⟨a0_0, a0_1, l0_2, a0_3, a0_4, l0_5, l0_6⟩)) else none
theorem tree_Lits.calls (a0_0 : Int) (a0_1 : ByteArray) (A0_2 : Option Addr) (c0_2 : Nat) (l0_2 : List (S26)) (a0_3 : Bool) (a0_4 : Bool) (A0_5 : Option Addr) (c0_5 : Nat) (l0_5 : List ByteArray) (A0_6 : Option Addr) (c0_6 : Nat) (l0_6 : List ByteArray) (r : List ByteArray) (w : World) (hr0_2 : Kd.C k26 w A0_2 l0_2.length l0_2) (hc0_2 : l0_2.length ≤ c0_2) (hr0_5 : Kd.C Kd.string w A0_5 l0_5.length l0_5) (hc0_5 : l0_5.length ≤ c0_5) (hr0_6 : Kd.C Kd.string w A0_6 l0_6.length l0_6) (hc0_6 : l0_6.length ≤ c0_6) (h : tree_Lits.f a0_0 a0_1 l0_2 a0_3 a0_4 l0_5 l0_6 = some r) :
    Calls Try.prog 12 #[.agg #[.int .i64 a0_0, .string a0_1, .slice A0_2 l0_2.length c0_2, .bool a0_3, .bool a0_4, .slice A0_5 l0_5.length c0_5, .slice A0_6 l0_6.length c0_6]] w fun e w' => ∃ v0_ : Value, e = .returned (v0_) ∧ Kd.R Kd.string 9 w' w.heap.size (fun _ => True) v0_ r ∧ Below w.heap.size w w' := by
  unfold tree_Lits.f at h
  by_cases hl : (lits (pre ⟨a0_0, a0_1, l0_2, a0_3, a0_4, l0_5, l0_6⟩)).length ≤ 8796093022208
  · rw [if_pos hl] at h
    obtain rfl := Option.some.inj h
    exact lits_calls ⟨a0_0, a0_1, l0_2, a0_3, a0_4, l0_5, l0_6⟩ A0_2 c0_2 A0_5 c0_5 A0_6 c0_6 w hr0_2 hl
  · rw [if_neg hl] at h
    cases h

end Go.Proofs.Ytjlnlonioknkhaa.PA

/- utf.least at its four places. -/
import Derived.Test.YtigihiggpfjbjaaPRx0
namespace Go.Proofs.Ytigihiggpfjbjaa.PR
open Go.RowKit Go.Proofs.YtigihiggpfjbjaaW.PrintWords Go.Proofs.YtigihiggpfjbjaaW.PrintLast Go.Proofs.YtigihiggpfjbjaaW.PrintMore
set_option linter.unusedVariables false
theorem idx97 (n r : Int) (h : (n = 1 ∧ r = 0) ∨ (n = 2 ∧ r = 128) ∨ (n = 3 ∧ r = 2048) ∨ (n = 4 ∧ r = 65536)) (w : World) :
    Sem.run Try.prog (Instr.index 97 (.agg #[.int .i64 0, .int .i64 0, .int .i64 128, .int .i64 2048, .int .i64 65536]) (.int .i64 n)) w = .ok (.int .i64 r) w := by
  rcases h with ⟨rfl, rfl⟩ | ⟨rfl, rfl⟩ | ⟨rfl, rfl⟩ | ⟨rfl, rfl⟩ <;> kernel_rfl
set_option maxRecDepth 100000 in
theorem least_calls (n r : Int) (w : World) (h : (n = 1 ∧ r = 0) ∨ (n = 2 ∧ r = 128) ∨ (n = 3 ∧ r = 2048) ∨ (n = 4 ∧ r = 65536)) :
    Calls Try.prog 56 #[.int .i64 n] w fun e w' => e = .returned (.int .i64 r) ∧ Below w.heap.size w w' := by
  have hu97 := Try.underlying97
  have hidx := idx97 n r h
  clear h
  go_enter Try.func56, Try.ntmps56
  go_wp2
  go_ret
  exact ⟨rfl, Below.refl _ _⟩
end Go.Proofs.Ytigihiggpfjbjaa.PR

/- The card of StatsJoins: the row, tied to the program's text. -/
import Derived.Test.YthipodffpkglfaaGreatDoorLawStatsJoins
import Derived.Test.YthipodffpkglfaaGreatDoorTie
import Derived.Test.YthipodffpkglfaaGreatDoorCards
import Derived.SevenTiedAt
namespace Go.Proofs.YthipodffpkglfaaGreatDoor
open Go
theorem statsJoinsCard_holds : Rows.StatsJoinsCardSaid :=
  Claim7.holds_tied_plain_at .later [] [.data, .data, .data] true (true, "bfa5909e4ed131226aa5eab61358680237512101e7ad685a2d0b6e3b82eeb51a") true
    statsJoins.statsJoins_holds (fun _ h => by cases h) (by kernel_rfl) (fun _ h => by cases h) statsJoins_row_tie rfl ⟨rfl, rfl⟩ (by kernel_rfl) rfl
    (fun f fn hf hfn => by
      obtain rfl : f = 3 := Option.some.inj ((show Tryz.prog.funcNamed "galley/galleylaw25.StatsJoins" = some 3 by kernel_rfl).symm.trans hf) |>.symm
      obtain rfl : fn = Tryz.f3 := (Option.some.inj (Tryz.func3.symm.trans hfn)).symm
      exact ⟨by kernel_rfl, fun j t ht => by
        rw [Tryz.params3] at ht
        have hm : t ∈ [22, 22] := by simpa using Array.mem_of_getElem? ht
        have hall : ([22, 22].all fun u => !Tryz.prog.wantsStandIn u) = true := by kernel_rfl
        exact (show Tryz.prog.wantsStandIn t = false by simpa using List.all_eq_true.1 hall t hm)⟩)
    (by kernel_rfl)
#print axioms statsJoinsCard_holds
end Go.Proofs.YthipodffpkglfaaGreatDoor

/- The card of PoolTwice: the row, tied to the program's text. -/
import Derived.Test.YtjlnlonioknkhaaDoorLawPoolTwice
import Derived.Test.YtjlnlonioknkhaaDoorTie
import Derived.Test.YtjlnlonioknkhaaDoorCards
import Derived.SevenTiedAt
namespace Go.Proofs.YtjlnlonioknkhaaDoor
open Go
theorem poolTwiceUptoCard_holds : Rows.PoolTwiceUptoCardSaid :=
  Claim7.holds_tied_plain_at .later [] [.data, .data, .data] true (true, "965f279fac09b3a0ed3bea93a985f648236ad369a811ee2b6df1081eb5fc290b") false
    poolTwiceUpto.poolTwice_holds (fun _ h => by cases h) (by kernel_rfl) (fun _ h => by cases h) poolTwiceUpto_row_tie rfl ⟨rfl, rfl⟩ (by kernel_rfl) rfl
    (fun f fn hf hfn => by
      obtain rfl : f = 5 := Option.some.inj ((show Tryd.prog.funcNamed "galley/galleylaw11.PoolTwice" = some 5 by kernel_rfl).symm.trans hf) |>.symm
      obtain rfl : fn = Tryd.f5 := (Option.some.inj (Tryd.func5.symm.trans hfn)).symm
      exact ⟨by kernel_rfl, fun j t ht => by
        rw [Tryd.params5] at ht
        have hm : t ∈ [22] := by simpa using Array.mem_of_getElem? ht
        have hall : ([22].all fun u => !Tryd.prog.wantsStandIn u) = true := by kernel_rfl
        exact (show Tryd.prog.wantsStandIn t = false by simpa using List.all_eq_true.1 hall t hm)⟩)
    (by kernel_rfl)
#print axioms poolTwiceUptoCard_holds
end Go.Proofs.YtjlnlonioknkhaaDoor

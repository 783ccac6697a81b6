/-
  DERIVED. GIVEN WITH THE SEED: THE CARDS: each row of YtjlnlonioknkhaaDoorRows.lean that lists a variable, with what it lists TIED to the program's text (the seventh form; the later family's looks); each row that meets fmt, with fmt's text TOLD by the authors' own Lean function (tested against real Go, not proved from fmt's source: count such statements apart). THE CARD IS WHAT COUNTS. Prove the row's statement (the work); the ties are given (YtjlnlonioknkhaaDoorTie.lean); close each card by the builder's one call (the guide's Derived/Test/ToyasCard.lean, 'card_holds'). Laid BY PROGRAM, IN A SANDBOX (cutbox-door.mjs). By AI agents, Wed Nov 11 2026. No macro, syntax, notation, axiom, sorry.
-/
import Derived.Test.YtjlnlonioknkhaaDoorRows
import GoSem.ClaimSeven
namespace Go.Proofs.YtjlnlonioknkhaaDoor
namespace Rows

/-- THE TIED CARD OF 'galleylaw11.PoolAsks'. -/
def poolAsksCard : Claim7 := { stood := { row := poolAsksRow, standIns := [], harness := (true, "965f279fac09b3a0ed3bea93a985f648236ad369a811ee2b6df1081eb5fc290b"), looks := false }, kinds := [], alts := [], laidByText := true, laidKinds := [.data, .data, .data], laidTests := true, laidLooks := .later }
def PoolAsksCardSaid : Prop := Claim7.holds Tryd.pinned (.plain (OpenSpec.ofChange poolAsksSpec)) poolAsksCard

/-- THE TIED CARD OF 'galleylaw11.PoolLikes'. -/
def poolLikesCard : Claim7 := { stood := { row := poolLikesRow, standIns := [], harness := (true, "965f279fac09b3a0ed3bea93a985f648236ad369a811ee2b6df1081eb5fc290b"), looks := false }, kinds := [], alts := [], laidByText := true, laidKinds := [.data, .data, .data], laidTests := true, laidLooks := .later }
def PoolLikesCardSaid : Prop := Claim7.holds Tryd.pinned (.plain (OpenSpec.ofChange poolLikesSpec)) poolLikesCard

/-- THE TIED CARD OF 'galleylaw11.PoolTwice'. -/
def poolTwiceCard : Claim7 := { stood := { row := poolTwiceRow, standIns := [], harness := (true, "965f279fac09b3a0ed3bea93a985f648236ad369a811ee2b6df1081eb5fc290b"), looks := false }, kinds := [], alts := [], laidByText := true, laidKinds := [.data, .data, .data], laidTests := true, laidLooks := .later }
def PoolTwiceCardSaid : Prop := Claim7.holds Tryd.pinned (.plain (OpenSpec.ofChange poolTwiceSpec)) poolTwiceCard

/-- THE SECOND FORM's CARD OF 'galleylaw11.PoolAsks'. -/
def poolAsksUptoCard : Claim7 := { stood := { row := poolAsksUptoRow, standIns := [], harness := (true, "965f279fac09b3a0ed3bea93a985f648236ad369a811ee2b6df1081eb5fc290b"), looks := false }, kinds := [], alts := [], laidByText := true, laidKinds := [.data, .data, .data], laidTests := true, laidLooks := .later }
def PoolAsksUptoCardSaid : Prop := Claim7.holds Tryd.pinned (.plain (OpenSpec.upto poolAsksSpec)) poolAsksUptoCard

/-- THE SECOND FORM's CARD OF 'galleylaw11.PoolLikes'. -/
def poolLikesUptoCard : Claim7 := { stood := { row := poolLikesUptoRow, standIns := [], harness := (true, "965f279fac09b3a0ed3bea93a985f648236ad369a811ee2b6df1081eb5fc290b"), looks := false }, kinds := [], alts := [], laidByText := true, laidKinds := [.data, .data, .data], laidTests := true, laidLooks := .later }
def PoolLikesUptoCardSaid : Prop := Claim7.holds Tryd.pinned (.plain (OpenSpec.upto poolLikesSpec)) poolLikesUptoCard

/-- THE SECOND FORM's CARD OF 'galleylaw11.PoolTwice'. -/
def poolTwiceUptoCard : Claim7 := { stood := { row := poolTwiceUptoRow, standIns := [], harness := (true, "965f279fac09b3a0ed3bea93a985f648236ad369a811ee2b6df1081eb5fc290b"), looks := false }, kinds := [], alts := [], laidByText := true, laidKinds := [.data, .data, .data], laidTests := true, laidLooks := .later }
def PoolTwiceUptoCardSaid : Prop := Claim7.holds Tryd.pinned (.plain (OpenSpec.upto poolTwiceSpec)) poolTwiceUptoCard
end Rows
end Go.Proofs.YtjlnlonioknkhaaDoor

/-
  DERIVED. GIVEN WITH THE SEED: THE CARDS: each row of YthipodffpkglfaaGreatDoorRows.lean that lists a variable, with what it lists TIED to the program's text (the seventh form; the later family's looks); each row that meets fmt, with fmt's text TOLD by the authors' own Lean function (tested against real Go, not proved from fmt's source: count such statements apart). THE CARD IS WHAT COUNTS. Prove the row's statement (the work); the ties are given (YthipodffpkglfaaGreatDoorTie.lean); close each card by the builder's one call (the guide's Derived/Test/ToyasCard.lean, 'card_holds'). Laid BY PROGRAM, IN A SANDBOX (cutbox-door.mjs). By AI agents, Wed Nov 11 2026. No macro, syntax, notation, axiom, sorry.
-/
import Derived.Test.YthipodffpkglfaaGreatDoorRows
import GoSem.ClaimSeven
namespace Go.Proofs.YthipodffpkglfaaGreatDoor
namespace Rows

/-- THE TIED CARD OF 'galleylaw25.StatsJoins'. -/
def statsJoinsCard : Claim7 := { stood := { row := statsJoinsRow, standIns := [], harness := (true, "bfa5909e4ed131226aa5eab61358680237512101e7ad685a2d0b6e3b82eeb51a"), looks := true }, kinds := [], alts := [], laidByText := true, laidKinds := [.data, .data, .data], laidTests := true, laidLooks := .later }
def StatsJoinsCardSaid : Prop := Claim7.holds Tryz.pinned (.plain (OpenSpec.ofChange statsJoinsSpec)) statsJoinsCard

/-- THE TIED CARD OF 'galleylaw25.StatsAsks'. -/
def statsAsksCard : Claim7 := { stood := { row := statsAsksRow, standIns := [], harness := (true, "bfa5909e4ed131226aa5eab61358680237512101e7ad685a2d0b6e3b82eeb51a"), looks := true }, kinds := [], alts := [], laidByText := true, laidKinds := [.data, .data, .data], laidTests := true, laidLooks := .later }
def StatsAsksCardSaid : Prop := Claim7.holds Tryz.pinned (.plain (OpenSpec.ofChange statsAsksSpec)) statsAsksCard

/-- THE SECOND FORM's CARD OF 'galleylaw25.StatsJoins'. -/
def statsJoinsUptoCard : Claim7 := { stood := { row := statsJoinsUptoRow, standIns := [], harness := (true, "bfa5909e4ed131226aa5eab61358680237512101e7ad685a2d0b6e3b82eeb51a"), looks := true }, kinds := [], alts := [], laidByText := true, laidKinds := [.data, .data, .data], laidTests := true, laidLooks := .later }
def StatsJoinsUptoCardSaid : Prop := Claim7.holds Tryz.pinned (.plain (OpenSpec.upto statsJoinsSpec)) statsJoinsUptoCard

/-- THE SECOND FORM's CARD OF 'galleylaw25.StatsAsks'. -/
def statsAsksUptoCard : Claim7 := { stood := { row := statsAsksUptoRow, standIns := [], harness := (true, "bfa5909e4ed131226aa5eab61358680237512101e7ad685a2d0b6e3b82eeb51a"), looks := true }, kinds := [], alts := [], laidByText := true, laidKinds := [.data, .data, .data], laidTests := true, laidLooks := .later }
def StatsAsksUptoCardSaid : Prop := Claim7.holds Tryz.pinned (.plain (OpenSpec.upto statsAsksSpec)) statsAsksUptoCard
end Rows
end Go.Proofs.YthipodffpkglfaaGreatDoor

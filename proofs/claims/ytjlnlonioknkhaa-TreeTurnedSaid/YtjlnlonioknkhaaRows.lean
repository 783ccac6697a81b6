/-
  NARROWER THAN 'FOR EVERY INPUT', by the rows' own cells (each row's printed sentence says how): TreeAsks: loops · TreeTurned: loops · TreeParts: loops · DocAsks: loops · DocMakes: loops · DocForces: loops.
  DERIVED. THE GIVEN ROWS OF THIS SEAT. 8 by the template 'for every input the law returns true; each argument reads behind the call as it read before'; 0 by the template 'total and deterministic' (their statements: YtjlnlonioknkhaaTotals.lean).
  GIVEN WITH THE SEED: the statements are not yours to turn. If you find one false, say at which input.
  Laid BY PROGRAM, IN A SANDBOX (cutbox-rows.mjs): the forced cells as the released guide's own fill.sh prints them over the translation 2f2706b638329ce3… (all of the seat's roots in one cut). By AI agents, Wed Nov 11 2026. No macro, syntax, notation, axiom, sorry.
-/
import Derived.Test.YtjlnlonioknkhaaChecked
import GoSem.Claim
import GoSem.ClaimJoined
import GoSem.ClaimMapViews
import Derived.JoinedTies
import Derived.KernelRfl
namespace Go.Proofs.Ytjlnlonioknkhaa
/- THE CELL 'sum', in the pinned program and in every row, IS THE sha256 OF THE DUMP (.gsa) THAT YtjlnlonioknkhaaProg.lean LOADS. Nothing in Lean hashes anything: it is a label: what it is worth is what the hold of that sum in a sandbox is worth. -/
noncomputable def Try.pinned : Pinned := { name := "ytjlnlonioknkhaa", sum := "2f2706b638329ce308efc6273a5997fdd54b34ee3bae80a39b254ce7b5d87d15", checked := Try.checked }
namespace Rows
def none {H : Type} : Left H := { results := [], args := [] }

/-- 'galleylaw10.TreeLits': WHATEVER THE INPUT: true; the input reads as it did. -/
def treeLitsSpec : ChangeSpec := { name := "treeLits", fn := fun _ => fun
  | [d1, d2] => { results := [.lit (.bool true)], args := [d1, d2] }
  | _ => none }
def treeLitsRow : OpenClaim := { program := "ytjlnlonioknkhaa", sum := "2f2706b638329ce308efc6273a5997fdd54b34ee3bae80a39b254ce7b5d87d15", func := "galley/galleylaw10.TreeLits", spec := "treeLits", unfollowed := true, recurses := true, apart := false }
def TreeLitsSaid : Prop := treeLitsRow.holds Try.pinned (OpenSpec.ofChange treeLitsSpec)

/-- ITS FALSE NEIGHBOUR: 'it returns false'. Refute it at one input. -/
def treeLitsWrong : ChangeSpec := { name := "treeLits", fn := fun _ => fun
  | [d1, d2] => { results := [.lit (.bool false)], args := [d1, d2] }
  | _ => none }
def TreeLitsWrongFalsely : Prop := treeLitsRow.holds Try.pinned (OpenSpec.ofChange treeLitsWrong)

/-- 'galleylaw10.TreeAsks': WHATEVER THE INPUT: true; the input reads as it did. -/
def treeAsksSpec : ChangeSpec := { name := "treeAsks", fn := fun _ => fun
  | [d1, d2] => { results := [.lit (.bool true)], args := [d1, d2] }
  | _ => none }
def treeAsksRow : OpenClaim := { program := "ytjlnlonioknkhaa", sum := "2f2706b638329ce308efc6273a5997fdd54b34ee3bae80a39b254ce7b5d87d15", func := "galley/galleylaw10.TreeAsks", spec := "treeAsks", unfollowed := true, recurses := true, loops := true, apart := false }
def TreeAsksSaid : Prop := treeAsksRow.holds Try.pinned (OpenSpec.ofChange treeAsksSpec)

/-- ITS FALSE NEIGHBOUR: 'it returns false'. Refute it at one input. -/
def treeAsksWrong : ChangeSpec := { name := "treeAsks", fn := fun _ => fun
  | [d1, d2] => { results := [.lit (.bool false)], args := [d1, d2] }
  | _ => none }
def TreeAsksWrongFalsely : Prop := treeAsksRow.holds Try.pinned (OpenSpec.ofChange treeAsksWrong)

/-- 'galleylaw10.TreeTurned': WHATEVER THE INPUT: true; the input reads as it did. -/
def treeTurnedSpec : ChangeSpec := { name := "treeTurned", fn := fun _ => fun
  | [d1, d2, d3] => { results := [.lit (.bool true)], args := [d1, d2, d3] }
  | _ => none }
def treeTurnedRow : OpenClaim := { program := "ytjlnlonioknkhaa", sum := "2f2706b638329ce308efc6273a5997fdd54b34ee3bae80a39b254ce7b5d87d15", func := "galley/galleylaw10.TreeTurned", spec := "treeTurned", unfollowed := true, recurses := true, loops := true, apart := false }
def TreeTurnedSaid : Prop := treeTurnedRow.holds Try.pinned (OpenSpec.ofChange treeTurnedSpec)

/-- ITS FALSE NEIGHBOUR: 'it returns false'. Refute it at one input. -/
def treeTurnedWrong : ChangeSpec := { name := "treeTurned", fn := fun _ => fun
  | [d1, d2, d3] => { results := [.lit (.bool false)], args := [d1, d2, d3] }
  | _ => none }
def TreeTurnedWrongFalsely : Prop := treeTurnedRow.holds Try.pinned (OpenSpec.ofChange treeTurnedWrong)

/-- 'galleylaw10.TreeParts': WHATEVER THE INPUT: true; the input reads as it did. -/
def treePartsSpec : ChangeSpec := { name := "treeParts", fn := fun _ => fun
  | [d1, d2] => { results := [.lit (.bool true)], args := [d1, d2] }
  | _ => none }
def treePartsRow : OpenClaim := { program := "ytjlnlonioknkhaa", sum := "2f2706b638329ce308efc6273a5997fdd54b34ee3bae80a39b254ce7b5d87d15", func := "galley/galleylaw10.TreeParts", spec := "treeParts", unfollowed := true, recurses := true, loops := true, apart := false }
def TreePartsSaid : Prop := treePartsRow.holds Try.pinned (OpenSpec.ofChange treePartsSpec)

/-- ITS FALSE NEIGHBOUR: 'it returns false'. Refute it at one input. -/
def treePartsWrong : ChangeSpec := { name := "treeParts", fn := fun _ => fun
  | [d1, d2] => { results := [.lit (.bool false)], args := [d1, d2] }
  | _ => none }
def TreePartsWrongFalsely : Prop := treePartsRow.holds Try.pinned (OpenSpec.ofChange treePartsWrong)

/-- 'galleylaw15.DocAsks': WHATEVER THE INPUT: true; the input reads as it did. -/
def docAsksSpec : ChangeSpec := { name := "docAsks", fn := fun _ => fun
  | [d] => { results := [.lit (.bool true)], args := [d] }
  | _ => none }
def docAsksRow : OpenClaim := { program := "ytjlnlonioknkhaa", sum := "2f2706b638329ce308efc6273a5997fdd54b34ee3bae80a39b254ce7b5d87d15", func := "galley/galleylaw15.DocAsks", spec := "docAsks", inPlace := ["internal/bytealg.IndexByteString", "internal/bytealg.IndexString"], recurses := true, named := ["internal/bytealg.MaxLen"], loops := true, apart := false }
def DocAsksSaid : Prop := docAsksRow.holds Try.pinned (OpenSpec.ofChange docAsksSpec)

/-- ITS FALSE NEIGHBOUR: 'it returns false'. Refute it at one input. -/
def docAsksWrong : ChangeSpec := { name := "docAsks", fn := fun _ => fun
  | [d] => { results := [.lit (.bool false)], args := [d] }
  | _ => none }
def DocAsksWrongFalsely : Prop := docAsksRow.holds Try.pinned (OpenSpec.ofChange docAsksWrong)

/-- 'galleylaw15.DocMakes': WHATEVER THE INPUT: true; the input reads as it did. -/
def docMakesSpec : ChangeSpec := { name := "docMakes", fn := fun _ => fun
  | [d1, d2, d3] => { results := [.lit (.bool true)], args := [d1, d2, d3] }
  | _ => none }
def docMakesRow : OpenClaim := { program := "ytjlnlonioknkhaa", sum := "2f2706b638329ce308efc6273a5997fdd54b34ee3bae80a39b254ce7b5d87d15", func := "galley/galleylaw15.DocMakes", spec := "docMakes", inPlace := ["internal/bytealg.IndexByteString", "internal/bytealg.IndexString"], recurses := true, named := ["internal/bytealg.MaxLen"], loops := true, apart := false }
def DocMakesSaid : Prop := docMakesRow.holds Try.pinned (OpenSpec.ofChange docMakesSpec)

/-- ITS FALSE NEIGHBOUR: 'it returns false'. Refute it at one input. -/
def docMakesWrong : ChangeSpec := { name := "docMakes", fn := fun _ => fun
  | [d1, d2, d3] => { results := [.lit (.bool false)], args := [d1, d2, d3] }
  | _ => none }
def DocMakesWrongFalsely : Prop := docMakesRow.holds Try.pinned (OpenSpec.ofChange docMakesWrong)

/-- 'galleylaw15.DocForces': WHATEVER THE INPUT: true; the input reads as it did. -/
def docForcesSpec : ChangeSpec := { name := "docForces", fn := fun _ => fun
  | [d1, d2, d3] => { results := [.lit (.bool true)], args := [d1, d2, d3] }
  | _ => none }
def docForcesRow : OpenClaim := { program := "ytjlnlonioknkhaa", sum := "2f2706b638329ce308efc6273a5997fdd54b34ee3bae80a39b254ce7b5d87d15", func := "galley/galleylaw15.DocForces", spec := "docForces", inPlace := ["internal/bytealg.IndexByteString", "internal/bytealg.IndexString"], recurses := true, named := ["internal/bytealg.MaxLen"], loops := true, apart := false }
def DocForcesSaid : Prop := docForcesRow.holds Try.pinned (OpenSpec.ofChange docForcesSpec)

/-- ITS FALSE NEIGHBOUR: 'it returns false'. Refute it at one input. -/
def docForcesWrong : ChangeSpec := { name := "docForces", fn := fun _ => fun
  | [d1, d2, d3] => { results := [.lit (.bool false)], args := [d1, d2, d3] }
  | _ => none }
def DocForcesWrongFalsely : Prop := docForcesRow.holds Try.pinned (OpenSpec.ofChange docForcesWrong)

/-- 'galleylaw15.DocBounds': WHATEVER THE INPUT: true; the input reads as it did. -/
def docBoundsSpec : ChangeSpec := { name := "docBounds", fn := fun _ => fun
  | [d1, d2] => { results := [.lit (.bool true)], args := [d1, d2] }
  | _ => none }
def docBoundsRow : OpenClaim := { program := "ytjlnlonioknkhaa", sum := "2f2706b638329ce308efc6273a5997fdd54b34ee3bae80a39b254ce7b5d87d15", func := "galley/galleylaw15.DocBounds", spec := "docBounds", inPlace := ["internal/bytealg.IndexByteString", "internal/bytealg.IndexString"], recurses := true, named := ["internal/bytealg.MaxLen"], apart := false }
def DocBoundsSaid : Prop := docBoundsRow.holds Try.pinned (OpenSpec.ofChange docBoundsSpec)

/-- ITS FALSE NEIGHBOUR: 'it returns false'. Refute it at one input. -/
def docBoundsWrong : ChangeSpec := { name := "docBounds", fn := fun _ => fun
  | [d1, d2] => { results := [.lit (.bool false)], args := [d1, d2] }
  | _ => none }
def DocBoundsWrongFalsely : Prop := docBoundsRow.holds Try.pinned (OpenSpec.ofChange docBoundsWrong)

/- THE SECOND FORM. 'bulk': how many values and letters a reading holds, each counted each time it is reached (what is shared counts as often as it is met; a slice's spare places count too). A statement '..UptoSaid' is the law's where the arguments, and the package variables that the reading takes, are together of bulk at most 1048576: NARROWER than '..Said'. Prove '..Said' where nothing that the law and all that it calls make is longer than what came in: it says more and counts as full. Else prove '..UptoSaid'. A law counts once. -/
mutual
def uptoBulk {H : Type} : DataW H → Nat
  | .lit (.string bytes) => bytes.length + 1
  | .lit _ => 1
  | .nil => 1
  | .ptr d => uptoBulk d + 1
  | .slice elems spare => uptoBulkAll elems + uptoBulkAll spare + 1
  | .agg parts => uptoBulkAll parts + 1
  | .iface _ d => uptoBulk d + 1
  | .map entries => uptoBulkEntries entries + 1
  | .held _ => 1
def uptoBulkAll {H : Type} : List (DataW H) → Nat
  | [] => 0
  | d :: r => uptoBulk d + uptoBulkAll r
def uptoBulkEntries {H : Type} : List (Lit × DataW H) → Nat
  | [] => 0
  | x :: r => uptoBulkEntry x + uptoBulkEntries r
def uptoBulkEntry {H : Type} : Lit × DataW H → Nat
  | (.string bytes, d) => bytes.length + uptoBulk d + 1
  | (_, d) => uptoBulk d + 1
 end
def uptoSmall : (H : Type) → List (DataW H) → Bool := fun _ ds => decide (uptoBulkAll ds ≤ 1048576)
def OpenSpec.upto (s : _root_.Go.ChangeSpec) : _root_.Go.OpenSpec := { _root_.Go.OpenSpec.ofChange s with cond := some uptoSmall }

/-- 'galleylaw10.TreeLits', WHERE WHAT IT READS IS OF BULK AT MOST 1048576: true; the input reads as it did. -/
def treeLitsUptoRow : OpenClaim := { program := "ytjlnlonioknkhaa", sum := "2f2706b638329ce308efc6273a5997fdd54b34ee3bae80a39b254ce7b5d87d15", func := "galley/galleylaw10.TreeLits", spec := "treeLits", unfollowed := true, recurses := true, apart := false, narrowed := true }
def TreeLitsUptoSaid : Prop := treeLitsUptoRow.holds Try.pinned (OpenSpec.upto treeLitsSpec)

/-- 'galleylaw10.TreeAsks', WHERE WHAT IT READS IS OF BULK AT MOST 1048576: true; the input reads as it did. -/
def treeAsksUptoRow : OpenClaim := { program := "ytjlnlonioknkhaa", sum := "2f2706b638329ce308efc6273a5997fdd54b34ee3bae80a39b254ce7b5d87d15", func := "galley/galleylaw10.TreeAsks", spec := "treeAsks", unfollowed := true, recurses := true, loops := true, apart := false, narrowed := true }
def TreeAsksUptoSaid : Prop := treeAsksUptoRow.holds Try.pinned (OpenSpec.upto treeAsksSpec)

/-- 'galleylaw10.TreeTurned', WHERE WHAT IT READS IS OF BULK AT MOST 1048576: true; the input reads as it did. -/
def treeTurnedUptoRow : OpenClaim := { program := "ytjlnlonioknkhaa", sum := "2f2706b638329ce308efc6273a5997fdd54b34ee3bae80a39b254ce7b5d87d15", func := "galley/galleylaw10.TreeTurned", spec := "treeTurned", unfollowed := true, recurses := true, loops := true, apart := false, narrowed := true }
def TreeTurnedUptoSaid : Prop := treeTurnedUptoRow.holds Try.pinned (OpenSpec.upto treeTurnedSpec)

/-- 'galleylaw10.TreeParts', WHERE WHAT IT READS IS OF BULK AT MOST 1048576: true; the input reads as it did. -/
def treePartsUptoRow : OpenClaim := { program := "ytjlnlonioknkhaa", sum := "2f2706b638329ce308efc6273a5997fdd54b34ee3bae80a39b254ce7b5d87d15", func := "galley/galleylaw10.TreeParts", spec := "treeParts", unfollowed := true, recurses := true, loops := true, apart := false, narrowed := true }
def TreePartsUptoSaid : Prop := treePartsUptoRow.holds Try.pinned (OpenSpec.upto treePartsSpec)

/-- 'galleylaw15.DocAsks', WHERE WHAT IT READS IS OF BULK AT MOST 1048576: true; the input reads as it did. -/
def docAsksUptoRow : OpenClaim := { program := "ytjlnlonioknkhaa", sum := "2f2706b638329ce308efc6273a5997fdd54b34ee3bae80a39b254ce7b5d87d15", func := "galley/galleylaw15.DocAsks", spec := "docAsks", inPlace := ["internal/bytealg.IndexByteString", "internal/bytealg.IndexString"], recurses := true, named := ["internal/bytealg.MaxLen"], loops := true, apart := false, narrowed := true }
def DocAsksUptoSaid : Prop := docAsksUptoRow.holds Try.pinned (OpenSpec.upto docAsksSpec)

/-- 'galleylaw15.DocMakes', WHERE WHAT IT READS IS OF BULK AT MOST 1048576: true; the input reads as it did. -/
def docMakesUptoRow : OpenClaim := { program := "ytjlnlonioknkhaa", sum := "2f2706b638329ce308efc6273a5997fdd54b34ee3bae80a39b254ce7b5d87d15", func := "galley/galleylaw15.DocMakes", spec := "docMakes", inPlace := ["internal/bytealg.IndexByteString", "internal/bytealg.IndexString"], recurses := true, named := ["internal/bytealg.MaxLen"], loops := true, apart := false, narrowed := true }
def DocMakesUptoSaid : Prop := docMakesUptoRow.holds Try.pinned (OpenSpec.upto docMakesSpec)

/-- 'galleylaw15.DocForces', WHERE WHAT IT READS IS OF BULK AT MOST 1048576: true; the input reads as it did. -/
def docForcesUptoRow : OpenClaim := { program := "ytjlnlonioknkhaa", sum := "2f2706b638329ce308efc6273a5997fdd54b34ee3bae80a39b254ce7b5d87d15", func := "galley/galleylaw15.DocForces", spec := "docForces", inPlace := ["internal/bytealg.IndexByteString", "internal/bytealg.IndexString"], recurses := true, named := ["internal/bytealg.MaxLen"], loops := true, apart := false, narrowed := true }
def DocForcesUptoSaid : Prop := docForcesUptoRow.holds Try.pinned (OpenSpec.upto docForcesSpec)

/-- 'galleylaw15.DocBounds', WHERE WHAT IT READS IS OF BULK AT MOST 1048576: true; the input reads as it did. -/
def docBoundsUptoRow : OpenClaim := { program := "ytjlnlonioknkhaa", sum := "2f2706b638329ce308efc6273a5997fdd54b34ee3bae80a39b254ce7b5d87d15", func := "galley/galleylaw15.DocBounds", spec := "docBounds", inPlace := ["internal/bytealg.IndexByteString", "internal/bytealg.IndexString"], recurses := true, named := ["internal/bytealg.MaxLen"], apart := false, narrowed := true }
def DocBoundsUptoSaid : Prop := docBoundsUptoRow.holds Try.pinned (OpenSpec.upto docBoundsSpec)

end Rows
end Go.Proofs.Ytjlnlonioknkhaa

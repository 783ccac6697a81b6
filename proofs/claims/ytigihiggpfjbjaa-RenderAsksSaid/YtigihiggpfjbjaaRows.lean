/-
  NARROWER THAN 'FOR EVERY INPUT', by the rows' own cells (each row's printed sentence says how): RenderAsks: loops · RenderTexts: loops · RenderWide: loops · RenderSame: loops · RenderFits: loops.
  DERIVED. THE GIVEN ROWS OF THIS SEAT. 6 by the template 'for every input the law returns true; each argument reads behind the call as it read before'; 0 by the template 'total and deterministic' (their statements: YtigihiggpfjbjaaTotals.lean).
  GIVEN WITH THE SEED: the statements are not yours to turn. If you find one false, say at which input.
  Laid BY PROGRAM, IN A SANDBOX (cutbox-rows.mjs): the forced cells as the released guide's own fill.sh prints them over the translation 05855f46e1a85955… (all of the seat's roots in one cut). By AI agents, Wed Nov 11 2026. No macro, syntax, notation, axiom, sorry.
-/
import Derived.Test.YtigihiggpfjbjaaChecked
import GoSem.Claim
import GoSem.ClaimJoined
import GoSem.ClaimMapViews
import Derived.JoinedTies
import Derived.KernelRfl
namespace Go.Proofs.Ytigihiggpfjbjaa
/- THE CELL 'sum', in the pinned program and in every row, IS THE sha256 OF THE DUMP (.gsa) THAT YtigihiggpfjbjaaProg.lean LOADS. Nothing in Lean hashes anything: it is a label: what it is worth is what the hold of that sum in a sandbox is worth. -/
noncomputable def Try.pinned : Pinned := { name := "ytigihiggpfjbjaa", sum := "05855f46e1a859552dbd7601db9dedc5ee02e5de234abf9388c7ef5581c99108", checked := Try.checked }
namespace Rows
def none {H : Type} : Left H := { results := [], args := [] }

/-- 'galleylaw17.RenderAsks': WHATEVER THE INPUT: true; the input reads as it did. -/
def renderAsksSpec : ChangeSpec := { name := "renderAsks", fn := fun _ => fun
  | [d1, d2] => { results := [.lit (.bool true)], args := [d1, d2] }
  | _ => none }
def renderAsksRow : OpenClaim := { program := "ytigihiggpfjbjaa", sum := "05855f46e1a859552dbd7601db9dedc5ee02e5de234abf9388c7ef5581c99108", func := "galley/galleylaw17.RenderAsks", spec := "renderAsks", inPlace := ["internal/bytealg.IndexByteString", "internal/bytealg.IndexString", "internal/abi.NoEscape"], recurses := true, named := ["internal/bytealg.MaxLen"], loops := true, apart := false }
def RenderAsksSaid : Prop := renderAsksRow.holds Try.pinned (OpenSpec.ofChange renderAsksSpec)

/-- ITS FALSE NEIGHBOUR: 'it returns false'. Refute it at one input. -/
def renderAsksWrong : ChangeSpec := { name := "renderAsks", fn := fun _ => fun
  | [d1, d2] => { results := [.lit (.bool false)], args := [d1, d2] }
  | _ => none }
def RenderAsksWrongFalsely : Prop := renderAsksRow.holds Try.pinned (OpenSpec.ofChange renderAsksWrong)

/-- 'galleylaw17.RenderTexts': WHATEVER THE INPUT: true; the input reads as it did. -/
def renderTextsSpec : ChangeSpec := { name := "renderTexts", fn := fun _ => fun
  | [d1, d2] => { results := [.lit (.bool true)], args := [d1, d2] }
  | _ => none }
def renderTextsRow : OpenClaim := { program := "ytigihiggpfjbjaa", sum := "05855f46e1a859552dbd7601db9dedc5ee02e5de234abf9388c7ef5581c99108", func := "galley/galleylaw17.RenderTexts", spec := "renderTexts", inPlace := ["internal/bytealg.IndexByteString", "internal/bytealg.IndexString", "internal/abi.NoEscape"], recurses := true, named := ["internal/bytealg.MaxLen"], loops := true, apart := false }
def RenderTextsSaid : Prop := renderTextsRow.holds Try.pinned (OpenSpec.ofChange renderTextsSpec)

/-- ITS FALSE NEIGHBOUR: 'it returns false'. Refute it at one input. -/
def renderTextsWrong : ChangeSpec := { name := "renderTexts", fn := fun _ => fun
  | [d1, d2] => { results := [.lit (.bool false)], args := [d1, d2] }
  | _ => none }
def RenderTextsWrongFalsely : Prop := renderTextsRow.holds Try.pinned (OpenSpec.ofChange renderTextsWrong)

/-- 'galleylaw17.RenderWide': WHATEVER THE INPUT: true; the input reads as it did. -/
def renderWideSpec : ChangeSpec := { name := "renderWide", fn := fun _ => fun
  | [d] => { results := [.lit (.bool true)], args := [d] }
  | _ => none }
def renderWideRow : OpenClaim := { program := "ytigihiggpfjbjaa", sum := "05855f46e1a859552dbd7601db9dedc5ee02e5de234abf9388c7ef5581c99108", func := "galley/galleylaw17.RenderWide", spec := "renderWide", inPlace := ["internal/bytealg.IndexByteString", "internal/bytealg.IndexString", "internal/abi.NoEscape"], recurses := true, named := ["internal/bytealg.MaxLen"], loops := true, apart := false }
def RenderWideSaid : Prop := renderWideRow.holds Try.pinned (OpenSpec.ofChange renderWideSpec)

/-- ITS FALSE NEIGHBOUR: 'it returns false'. Refute it at one input. -/
def renderWideWrong : ChangeSpec := { name := "renderWide", fn := fun _ => fun
  | [d] => { results := [.lit (.bool false)], args := [d] }
  | _ => none }
def RenderWideWrongFalsely : Prop := renderWideRow.holds Try.pinned (OpenSpec.ofChange renderWideWrong)

/-- 'galleylaw17.RenderLines': WHATEVER THE INPUT: true; the input reads as it did. -/
def renderLinesSpec : ChangeSpec := { name := "renderLines", fn := fun _ => fun
  | [d1, d2, d3, d4] => { results := [.lit (.bool true)], args := [d1, d2, d3, d4] }
  | _ => none }
def renderLinesRow : OpenClaim := { program := "ytigihiggpfjbjaa", sum := "05855f46e1a859552dbd7601db9dedc5ee02e5de234abf9388c7ef5581c99108", func := "galley/galleylaw17.RenderLines", spec := "renderLines", inPlace := ["internal/bytealg.IndexByteString", "internal/bytealg.IndexString", "internal/abi.NoEscape"], recurses := true, named := ["internal/bytealg.MaxLen"], apart := false }
def RenderLinesSaid : Prop := renderLinesRow.holds Try.pinned (OpenSpec.ofChange renderLinesSpec)

/-- ITS FALSE NEIGHBOUR: 'it returns false'. Refute it at one input. -/
def renderLinesWrong : ChangeSpec := { name := "renderLines", fn := fun _ => fun
  | [d1, d2, d3, d4] => { results := [.lit (.bool false)], args := [d1, d2, d3, d4] }
  | _ => none }
def RenderLinesWrongFalsely : Prop := renderLinesRow.holds Try.pinned (OpenSpec.ofChange renderLinesWrong)

/-- 'galleylaw17.RenderSame': WHATEVER THE INPUT: true; the input reads as it did. -/
def renderSameSpec : ChangeSpec := { name := "renderSame", fn := fun _ => fun
  | [d1, d2] => { results := [.lit (.bool true)], args := [d1, d2] }
  | _ => none }
def renderSameRow : OpenClaim := { program := "ytigihiggpfjbjaa", sum := "05855f46e1a859552dbd7601db9dedc5ee02e5de234abf9388c7ef5581c99108", func := "galley/galleylaw17.RenderSame", spec := "renderSame", inPlace := ["internal/bytealg.IndexByteString", "internal/bytealg.IndexString", "internal/abi.NoEscape"], recurses := true, named := ["internal/bytealg.MaxLen"], loops := true, apart := false }
def RenderSameSaid : Prop := renderSameRow.holds Try.pinned (OpenSpec.ofChange renderSameSpec)

/-- ITS FALSE NEIGHBOUR: 'it returns false'. Refute it at one input. -/
def renderSameWrong : ChangeSpec := { name := "renderSame", fn := fun _ => fun
  | [d1, d2] => { results := [.lit (.bool false)], args := [d1, d2] }
  | _ => none }
def RenderSameWrongFalsely : Prop := renderSameRow.holds Try.pinned (OpenSpec.ofChange renderSameWrong)

/-- 'galleylaw17.RenderFits': WHATEVER THE INPUT: true; the input reads as it did. -/
def renderFitsSpec : ChangeSpec := { name := "renderFits", fn := fun _ => fun
  | [d1, d2, d3, d4] => { results := [.lit (.bool true)], args := [d1, d2, d3, d4] }
  | _ => none }
def renderFitsRow : OpenClaim := { program := "ytigihiggpfjbjaa", sum := "05855f46e1a859552dbd7601db9dedc5ee02e5de234abf9388c7ef5581c99108", func := "galley/galleylaw17.RenderFits", spec := "renderFits", inPlace := ["internal/bytealg.IndexByteString", "internal/bytealg.IndexString", "internal/abi.NoEscape"], recurses := true, named := ["internal/bytealg.MaxLen"], loops := true, apart := false }
def RenderFitsSaid : Prop := renderFitsRow.holds Try.pinned (OpenSpec.ofChange renderFitsSpec)

/-- ITS FALSE NEIGHBOUR: 'it returns false'. Refute it at one input. -/
def renderFitsWrong : ChangeSpec := { name := "renderFits", fn := fun _ => fun
  | [d1, d2, d3, d4] => { results := [.lit (.bool false)], args := [d1, d2, d3, d4] }
  | _ => none }
def RenderFitsWrongFalsely : Prop := renderFitsRow.holds Try.pinned (OpenSpec.ofChange renderFitsWrong)

/- THE SECOND FORM. 'bulk': how many values and letters a reading holds, each counted each time it is reached (what is shared counts as often as it is met; a slice's spare places count too). A statement '..UptoSaid' is the law's where the arguments, and the package variables that the reading takes, are together of bulk at most 1048576: NARROWER than '..Said'. Prove '..Said' where nothing that the law and all that it calls make is longer than what came in: it says more and counts as full. Else prove '..UptoSaid'. A law counts once. -/
mutual
def uptoBulk {H : Type} : DataW H → Nat
  | .lit (.string bytes) => bytes.length + 1
  | .lit _ => 1
  | .nil => 1
  | .ptr d => uptoBulk d + 1
  | .slice elems spare => uptoBulkAll elems + uptoBulkAll spare + 1
  | .agg parts => uptoBulkAll parts + 1
  | .iface _ d => uptoBulk d + 1
  | .map entries => uptoBulkEntries entries + 1
  | .held _ => 1
def uptoBulkAll {H : Type} : List (DataW H) → Nat
  | [] => 0
  | d :: r => uptoBulk d + uptoBulkAll r
def uptoBulkEntries {H : Type} : List (Lit × DataW H) → Nat
  | [] => 0
  | x :: r => uptoBulkEntry x + uptoBulkEntries r
def uptoBulkEntry {H : Type} : Lit × DataW H → Nat
  | (.string bytes, d) => bytes.length + uptoBulk d + 1
  | (_, d) => uptoBulk d + 1
 end
def uptoSmall : (H : Type) → List (DataW H) → Bool := fun _ ds => decide (uptoBulkAll ds ≤ 1048576)
def OpenSpec.upto (s : _root_.Go.ChangeSpec) : _root_.Go.OpenSpec := { _root_.Go.OpenSpec.ofChange s with cond := some uptoSmall }

/-- 'galleylaw17.RenderAsks', WHERE WHAT IT READS IS OF BULK AT MOST 1048576: true; the input reads as it did. -/
def renderAsksUptoRow : OpenClaim := { program := "ytigihiggpfjbjaa", sum := "05855f46e1a859552dbd7601db9dedc5ee02e5de234abf9388c7ef5581c99108", func := "galley/galleylaw17.RenderAsks", spec := "renderAsks", inPlace := ["internal/bytealg.IndexByteString", "internal/bytealg.IndexString", "internal/abi.NoEscape"], recurses := true, named := ["internal/bytealg.MaxLen"], loops := true, apart := false, narrowed := true }
def RenderAsksUptoSaid : Prop := renderAsksUptoRow.holds Try.pinned (OpenSpec.upto renderAsksSpec)

/-- 'galleylaw17.RenderTexts', WHERE WHAT IT READS IS OF BULK AT MOST 1048576: true; the input reads as it did. -/
def renderTextsUptoRow : OpenClaim := { program := "ytigihiggpfjbjaa", sum := "05855f46e1a859552dbd7601db9dedc5ee02e5de234abf9388c7ef5581c99108", func := "galley/galleylaw17.RenderTexts", spec := "renderTexts", inPlace := ["internal/bytealg.IndexByteString", "internal/bytealg.IndexString", "internal/abi.NoEscape"], recurses := true, named := ["internal/bytealg.MaxLen"], loops := true, apart := false, narrowed := true }
def RenderTextsUptoSaid : Prop := renderTextsUptoRow.holds Try.pinned (OpenSpec.upto renderTextsSpec)

/-- 'galleylaw17.RenderWide', WHERE WHAT IT READS IS OF BULK AT MOST 1048576: true; the input reads as it did. -/
def renderWideUptoRow : OpenClaim := { program := "ytigihiggpfjbjaa", sum := "05855f46e1a859552dbd7601db9dedc5ee02e5de234abf9388c7ef5581c99108", func := "galley/galleylaw17.RenderWide", spec := "renderWide", inPlace := ["internal/bytealg.IndexByteString", "internal/bytealg.IndexString", "internal/abi.NoEscape"], recurses := true, named := ["internal/bytealg.MaxLen"], loops := true, apart := false, narrowed := true }
def RenderWideUptoSaid : Prop := renderWideUptoRow.holds Try.pinned (OpenSpec.upto renderWideSpec)

/-- 'galleylaw17.RenderLines', WHERE WHAT IT READS IS OF BULK AT MOST 1048576: true; the input reads as it did. -/
def renderLinesUptoRow : OpenClaim := { program := "ytigihiggpfjbjaa", sum := "05855f46e1a859552dbd7601db9dedc5ee02e5de234abf9388c7ef5581c99108", func := "galley/galleylaw17.RenderLines", spec := "renderLines", inPlace := ["internal/bytealg.IndexByteString", "internal/bytealg.IndexString", "internal/abi.NoEscape"], recurses := true, named := ["internal/bytealg.MaxLen"], apart := false, narrowed := true }
def RenderLinesUptoSaid : Prop := renderLinesUptoRow.holds Try.pinned (OpenSpec.upto renderLinesSpec)

/-- 'galleylaw17.RenderSame', WHERE WHAT IT READS IS OF BULK AT MOST 1048576: true; the input reads as it did. -/
def renderSameUptoRow : OpenClaim := { program := "ytigihiggpfjbjaa", sum := "05855f46e1a859552dbd7601db9dedc5ee02e5de234abf9388c7ef5581c99108", func := "galley/galleylaw17.RenderSame", spec := "renderSame", inPlace := ["internal/bytealg.IndexByteString", "internal/bytealg.IndexString", "internal/abi.NoEscape"], recurses := true, named := ["internal/bytealg.MaxLen"], loops := true, apart := false, narrowed := true }
def RenderSameUptoSaid : Prop := renderSameUptoRow.holds Try.pinned (OpenSpec.upto renderSameSpec)

/-- 'galleylaw17.RenderFits', WHERE WHAT IT READS IS OF BULK AT MOST 1048576: true; the input reads as it did. -/
def renderFitsUptoRow : OpenClaim := { program := "ytigihiggpfjbjaa", sum := "05855f46e1a859552dbd7601db9dedc5ee02e5de234abf9388c7ef5581c99108", func := "galley/galleylaw17.RenderFits", spec := "renderFits", inPlace := ["internal/bytealg.IndexByteString", "internal/bytealg.IndexString", "internal/abi.NoEscape"], recurses := true, named := ["internal/bytealg.MaxLen"], loops := true, apart := false, narrowed := true }
def RenderFitsUptoSaid : Prop := renderFitsUptoRow.holds Try.pinned (OpenSpec.upto renderFitsSpec)

end Rows
end Go.Proofs.Ytigihiggpfjbjaa

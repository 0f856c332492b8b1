/-
  No cell of these rows narrows 'for every input' (looked for: loops, veiled, ifaces, maps, wideKeys, modest, calm, conditions, laid).
  DERIVED. THE GIVEN ROWS OF THIS SEAT. 3 by the template 'for every input the law returns true; each argument reads behind the call as it read before'; 0 by the template 'total and deterministic' (their statements: YtlipmgepneffkaaTotals.lean).
  GIVEN WITH THE SEED: the statements are not yours to turn. If you find one false, say at which input.
  Laid BY PROGRAM, IN A SANDBOX (cutbox-rows.mjs): the forced cells as the released guide's own fill.sh prints them over the translation e852b973d0b10d36… (all of the seat's roots in one cut). By AI agents, Wed Nov 11 2026. No macro, syntax, notation, axiom, sorry.
-/
import Derived.Test.YtlipmgepneffkaaChecked
import GoSem.Claim
import GoSem.ClaimJoined
import GoSem.ClaimMapViews
import Derived.JoinedTies
import Derived.KernelRfl
namespace Go.Proofs.Ytlipmgepneffkaa
/- THE CELL 'sum', in the pinned program and in every row, IS THE sha256 OF THE DUMP (.gsa) THAT YtlipmgepneffkaaProg.lean LOADS. Nothing in Lean hashes anything: it is a label: what it is worth is what the hold of that sum in a sandbox is worth. -/
noncomputable def Try.pinned : Pinned := { name := "ytlipmgepneffkaa", sum := "e852b973d0b10d36b63be1a94ba67448119a678cd54657e7d866b18eee04f882", checked := Try.checked }
namespace Rows
def none {H : Type} : Left H := { results := [], args := [] }

/-- 'noonmarklaw01.SafeSums': WHATEVER THE INPUT: true; the input reads as it did. -/
def safeSumsSpec : ChangeSpec := { name := "safeSums", fn := fun _ => fun
  | [d1, d2] => { results := [.lit (.bool true)], args := [d1, d2] }
  | _ => none }
def safeSumsRow : OpenClaim := { program := "ytlipmgepneffkaa", sum := "e852b973d0b10d36b63be1a94ba67448119a678cd54657e7d866b18eee04f882", func := "noonmark/noonmarklaw01.SafeSums", spec := "safeSums", inPlace := ["math/bits.Add64"], named := ["math/bits.divideError", "math/bits.overflowError"], apart := false }
def SafeSumsSaid : Prop := safeSumsRow.holds Try.pinned (OpenSpec.ofChange safeSumsSpec)

/-- ITS FALSE NEIGHBOUR: 'it returns false'. Refute it at one input. -/
def safeSumsWrong : ChangeSpec := { name := "safeSums", fn := fun _ => fun
  | [d1, d2] => { results := [.lit (.bool false)], args := [d1, d2] }
  | _ => none }
def SafeSumsWrongFalsely : Prop := safeSumsRow.holds Try.pinned (OpenSpec.ofChange safeSumsWrong)

/-- 'noonmarklaw01.SafeBack': WHATEVER THE INPUT: true; the input reads as it did. -/
def safeBackSpec : ChangeSpec := { name := "safeBack", fn := fun _ => fun
  | [d1, d2, d3] => { results := [.lit (.bool true)], args := [d1, d2, d3] }
  | _ => none }
def safeBackRow : OpenClaim := { program := "ytlipmgepneffkaa", sum := "e852b973d0b10d36b63be1a94ba67448119a678cd54657e7d866b18eee04f882", func := "noonmark/noonmarklaw01.SafeBack", spec := "safeBack", inPlace := ["math/bits.Add64"], named := ["math/bits.divideError", "math/bits.overflowError"], apart := false }
def SafeBackSaid : Prop := safeBackRow.holds Try.pinned (OpenSpec.ofChange safeBackSpec)

/-- ITS FALSE NEIGHBOUR: 'it returns false'. Refute it at one input. -/
def safeBackWrong : ChangeSpec := { name := "safeBack", fn := fun _ => fun
  | [d1, d2, d3] => { results := [.lit (.bool false)], args := [d1, d2, d3] }
  | _ => none }
def SafeBackWrongFalsely : Prop := safeBackRow.holds Try.pinned (OpenSpec.ofChange safeBackWrong)

/-- 'noonmarklaw01.SafeRises': WHATEVER THE INPUT: true; the input reads as it did. -/
def safeRisesSpec : ChangeSpec := { name := "safeRises", fn := fun _ => fun
  | [d1, d2, d3, d4] => { results := [.lit (.bool true)], args := [d1, d2, d3, d4] }
  | _ => none }
def safeRisesRow : OpenClaim := { program := "ytlipmgepneffkaa", sum := "e852b973d0b10d36b63be1a94ba67448119a678cd54657e7d866b18eee04f882", func := "noonmark/noonmarklaw01.SafeRises", spec := "safeRises", inPlace := ["math/bits.Add64"], named := ["math/bits.divideError", "math/bits.overflowError"], apart := false }
def SafeRisesSaid : Prop := safeRisesRow.holds Try.pinned (OpenSpec.ofChange safeRisesSpec)

/-- ITS FALSE NEIGHBOUR: 'it returns false'. Refute it at one input. -/
def safeRisesWrong : ChangeSpec := { name := "safeRises", fn := fun _ => fun
  | [d1, d2, d3, d4] => { results := [.lit (.bool false)], args := [d1, d2, d3, d4] }
  | _ => none }
def SafeRisesWrongFalsely : Prop := safeRisesRow.holds Try.pinned (OpenSpec.ofChange safeRisesWrong)

/- THE SECOND FORM. 'bulk': how many values and letters a reading holds, each counted each time it is reached (what is shared counts as often as it is met; a slice's spare places count too). A statement '..UptoSaid' is the law's where the arguments, and the package variables that the reading takes, are together of bulk at most 1048576: NARROWER than '..Said'. Prove '..Said' where nothing that the law and all that it calls make is longer than what came in: it says more and counts as full. Else prove '..UptoSaid'. A law counts once. -/
mutual
def uptoBulk {H : Type} : DataW H → Nat
  | .lit (.string bytes) => bytes.length + 1
  | .lit _ => 1
  | .nil => 1
  | .ptr d => uptoBulk d + 1
  | .slice elems spare => uptoBulkAll elems + uptoBulkAll spare + 1
  | .agg parts => uptoBulkAll parts + 1
  | .iface _ d => uptoBulk d + 1
  | .map entries => uptoBulkEntries entries + 1
  | .held _ => 1
def uptoBulkAll {H : Type} : List (DataW H) → Nat
  | [] => 0
  | d :: r => uptoBulk d + uptoBulkAll r
def uptoBulkEntries {H : Type} : List (Lit × DataW H) → Nat
  | [] => 0
  | x :: r => uptoBulkEntry x + uptoBulkEntries r
def uptoBulkEntry {H : Type} : Lit × DataW H → Nat
  | (.string bytes, d) => bytes.length + uptoBulk d + 1
  | (_, d) => uptoBulk d + 1
 end
def uptoSmall : (H : Type) → List (DataW H) → Bool := fun _ ds => decide (uptoBulkAll ds ≤ 1048576)
def OpenSpec.upto (s : _root_.Go.ChangeSpec) : _root_.Go.OpenSpec := { _root_.Go.OpenSpec.ofChange s with cond := some uptoSmall }

/-- 'noonmarklaw01.SafeSums', WHERE WHAT IT READS IS OF BULK AT MOST 1048576: true; the input reads as it did. -/
def safeSumsUptoRow : OpenClaim := { program := "ytlipmgepneffkaa", sum := "e852b973d0b10d36b63be1a94ba67448119a678cd54657e7d866b18eee04f882", func := "noonmark/noonmarklaw01.SafeSums", spec := "safeSums", inPlace := ["math/bits.Add64"], named := ["math/bits.divideError", "math/bits.overflowError"], apart := false, narrowed := true }
def SafeSumsUptoSaid : Prop := safeSumsUptoRow.holds Try.pinned (OpenSpec.upto safeSumsSpec)

/-- 'noonmarklaw01.SafeBack', WHERE WHAT IT READS IS OF BULK AT MOST 1048576: true; the input reads as it did. -/
def safeBackUptoRow : OpenClaim := { program := "ytlipmgepneffkaa", sum := "e852b973d0b10d36b63be1a94ba67448119a678cd54657e7d866b18eee04f882", func := "noonmark/noonmarklaw01.SafeBack", spec := "safeBack", inPlace := ["math/bits.Add64"], named := ["math/bits.divideError", "math/bits.overflowError"], apart := false, narrowed := true }
def SafeBackUptoSaid : Prop := safeBackUptoRow.holds Try.pinned (OpenSpec.upto safeBackSpec)

/-- 'noonmarklaw01.SafeRises', WHERE WHAT IT READS IS OF BULK AT MOST 1048576: true; the input reads as it did. -/
def safeRisesUptoRow : OpenClaim := { program := "ytlipmgepneffkaa", sum := "e852b973d0b10d36b63be1a94ba67448119a678cd54657e7d866b18eee04f882", func := "noonmark/noonmarklaw01.SafeRises", spec := "safeRises", inPlace := ["math/bits.Add64"], named := ["math/bits.divideError", "math/bits.overflowError"], apart := false, narrowed := true }
def SafeRisesUptoSaid : Prop := safeRisesUptoRow.holds Try.pinned (OpenSpec.upto safeRisesSpec)

end Rows
end Go.Proofs.Ytlipmgepneffkaa

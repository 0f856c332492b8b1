/-
  No cell of these rows narrows 'for every input' (looked for: loops, veiled, ifaces, maps, wideKeys, modest, calm, conditions, laid).
  DERIVED. THE GIVEN ROWS OF THIS SEAT. 4 by the template 'for every input the law returns true; each argument reads behind the call as it read before'; 0 by the template 'total and deterministic' (their statements: YteibodpeknlchaaTotals.lean).
  GIVEN WITH THE SEED: the statements are not yours to turn. If you find one false, say at which input.
  Laid BY PROGRAM, IN A SANDBOX (cutbox-rows.mjs): the forced cells as the released guide's own fill.sh prints them over the translation 2d22435aaa9ad6e1… (all of the seat's roots in one cut). By AI agents, Wed Nov 11 2026. No macro, syntax, notation, axiom, sorry.
-/
import Derived.Test.YteibodpeknlchaaChecked
import GoSem.Claim
import GoSem.ClaimJoined
import GoSem.ClaimMapViews
import Derived.JoinedTies
import Derived.KernelRfl
namespace Go.Proofs.Yteibodpeknlchaa
/- THE CELL 'sum', in the pinned program and in every row, IS THE sha256 OF THE DUMP (.gsa) THAT YteibodpeknlchaaProg.lean LOADS. Nothing in Lean hashes anything: it is a label: what it is worth is what the hold of that sum in a sandbox is worth. -/
noncomputable def Try.pinned : Pinned := { name := "yteibodpeknlchaa", sum := "2d22435aaa9ad6e18fb14586b3b58d0aa3d7fcb7cc4e35b33b7e265cfa2d4532", checked := Try.checked }
namespace Rows
def none {H : Type} : Left H := { results := [], args := [] }

/-- 'noonmarklaw19.GridAnswers': WHATEVER THE INPUT: true; the input reads as it did. -/
def gridAnswersSpec : ChangeSpec := { name := "gridAnswers", fn := fun _ => fun
  | [d1, d2, d3] => { results := [.lit (.bool true)], args := [d1, d2, d3] }
  | _ => none }
def gridAnswersRow : OpenClaim := { program := "yteibodpeknlchaa", sum := "2d22435aaa9ad6e18fb14586b3b58d0aa3d7fcb7cc4e35b33b7e265cfa2d4532", func := "noonmark/noonmarklaw19.GridAnswers", spec := "gridAnswers", inPlace := ["math/bits.Add64"], named := ["math/bits.divideError", "math/bits.overflowError"], apart := false }
def GridAnswersSaid : Prop := gridAnswersRow.holds Try.pinned (OpenSpec.ofChange gridAnswersSpec)

/-- ITS FALSE NEIGHBOUR: 'it returns false'. Refute it at one input. -/
def gridAnswersWrong : ChangeSpec := { name := "gridAnswers", fn := fun _ => fun
  | [d1, d2, d3] => { results := [.lit (.bool false)], args := [d1, d2, d3] }
  | _ => none }
def GridAnswersWrongFalsely : Prop := gridAnswersRow.holds Try.pinned (OpenSpec.ofChange gridAnswersWrong)

/-- 'noonmarklaw19.GridPicks': WHATEVER THE INPUT: true; the input reads as it did. -/
def gridPicksSpec : ChangeSpec := { name := "gridPicks", fn := fun _ => fun
  | [d1, d2, d3] => { results := [.lit (.bool true)], args := [d1, d2, d3] }
  | _ => none }
def gridPicksRow : OpenClaim := { program := "yteibodpeknlchaa", sum := "2d22435aaa9ad6e18fb14586b3b58d0aa3d7fcb7cc4e35b33b7e265cfa2d4532", func := "noonmark/noonmarklaw19.GridPicks", spec := "gridPicks", inPlace := ["math/bits.Add64"], named := ["math/bits.divideError", "math/bits.overflowError"], apart := false }
def GridPicksSaid : Prop := gridPicksRow.holds Try.pinned (OpenSpec.ofChange gridPicksSpec)

/-- ITS FALSE NEIGHBOUR: 'it returns false'. Refute it at one input. -/
def gridPicksWrong : ChangeSpec := { name := "gridPicks", fn := fun _ => fun
  | [d1, d2, d3] => { results := [.lit (.bool false)], args := [d1, d2, d3] }
  | _ => none }
def GridPicksWrongFalsely : Prop := gridPicksRow.holds Try.pinned (OpenSpec.ofChange gridPicksWrong)

/-- 'noonmarklaw19.GridParts': WHATEVER THE INPUT: true; the input reads as it did. -/
def gridPartsSpec : ChangeSpec := { name := "gridParts", fn := fun _ => fun
  | [d1, d2] => { results := [.lit (.bool true)], args := [d1, d2] }
  | _ => none }
def gridPartsRow : OpenClaim := { program := "yteibodpeknlchaa", sum := "2d22435aaa9ad6e18fb14586b3b58d0aa3d7fcb7cc4e35b33b7e265cfa2d4532", func := "noonmark/noonmarklaw19.GridParts", spec := "gridParts", inPlace := ["math/bits.Add64"], named := ["math/bits.divideError", "math/bits.overflowError"], apart := false }
def GridPartsSaid : Prop := gridPartsRow.holds Try.pinned (OpenSpec.ofChange gridPartsSpec)

/-- ITS FALSE NEIGHBOUR: 'it returns false'. Refute it at one input. -/
def gridPartsWrong : ChangeSpec := { name := "gridParts", fn := fun _ => fun
  | [d1, d2] => { results := [.lit (.bool false)], args := [d1, d2] }
  | _ => none }
def GridPartsWrongFalsely : Prop := gridPartsRow.holds Try.pinned (OpenSpec.ofChange gridPartsWrong)

/-- 'noonmarklaw19.GridWithin': WHATEVER THE INPUT: true; the input reads as it did. -/
def gridWithinSpec : ChangeSpec := { name := "gridWithin", fn := fun _ => fun
  | [d1, d2, d3, d4] => { results := [.lit (.bool true)], args := [d1, d2, d3, d4] }
  | _ => none }
def gridWithinRow : OpenClaim := { program := "yteibodpeknlchaa", sum := "2d22435aaa9ad6e18fb14586b3b58d0aa3d7fcb7cc4e35b33b7e265cfa2d4532", func := "noonmark/noonmarklaw19.GridWithin", spec := "gridWithin", inPlace := ["math/bits.Add64"], unfollowed := true, recurses := true, named := ["math/bits.divideError", "math/bits.overflowError"], apart := false }
def GridWithinSaid : Prop := gridWithinRow.holds Try.pinned (OpenSpec.ofChange gridWithinSpec)

/-- ITS FALSE NEIGHBOUR: 'it returns false'. Refute it at one input. -/
def gridWithinWrong : ChangeSpec := { name := "gridWithin", fn := fun _ => fun
  | [d1, d2, d3, d4] => { results := [.lit (.bool false)], args := [d1, d2, d3, d4] }
  | _ => none }
def GridWithinWrongFalsely : Prop := gridWithinRow.holds Try.pinned (OpenSpec.ofChange gridWithinWrong)

/- THE SECOND FORM. 'bulk': how many values and letters a reading holds, each counted each time it is reached (what is shared counts as often as it is met; a slice's spare places count too). A statement '..UptoSaid' is the law's where the arguments, and the package variables that the reading takes, are together of bulk at most 1048576: NARROWER than '..Said'. Prove '..Said' where nothing that the law and all that it calls make is longer than what came in: it says more and counts as full. Else prove '..UptoSaid'. A law counts once. -/
mutual
def uptoBulk {H : Type} : DataW H → Nat
  | .lit (.string bytes) => bytes.length + 1
  | .lit _ => 1
  | .nil => 1
  | .ptr d => uptoBulk d + 1
  | .slice elems spare => uptoBulkAll elems + uptoBulkAll spare + 1
  | .agg parts => uptoBulkAll parts + 1
  | .iface _ d => uptoBulk d + 1
  | .map entries => uptoBulkEntries entries + 1
  | .held _ => 1
def uptoBulkAll {H : Type} : List (DataW H) → Nat
  | [] => 0
  | d :: r => uptoBulk d + uptoBulkAll r
def uptoBulkEntries {H : Type} : List (Lit × DataW H) → Nat
  | [] => 0
  | x :: r => uptoBulkEntry x + uptoBulkEntries r
def uptoBulkEntry {H : Type} : Lit × DataW H → Nat
  | (.string bytes, d) => bytes.length + uptoBulk d + 1
  | (_, d) => uptoBulk d + 1
 end
def uptoSmall : (H : Type) → List (DataW H) → Bool := fun _ ds => decide (uptoBulkAll ds ≤ 1048576)
def OpenSpec.upto (s : _root_.Go.ChangeSpec) : _root_.Go.OpenSpec := { _root_.Go.OpenSpec.ofChange s with cond := some uptoSmall }

/-- 'noonmarklaw19.GridAnswers', WHERE WHAT IT READS IS OF BULK AT MOST 1048576: true; the input reads as it did. -/
def gridAnswersUptoRow : OpenClaim := { program := "yteibodpeknlchaa", sum := "2d22435aaa9ad6e18fb14586b3b58d0aa3d7fcb7cc4e35b33b7e265cfa2d4532", func := "noonmark/noonmarklaw19.GridAnswers", spec := "gridAnswers", inPlace := ["math/bits.Add64"], named := ["math/bits.divideError", "math/bits.overflowError"], apart := false, narrowed := true }
def GridAnswersUptoSaid : Prop := gridAnswersUptoRow.holds Try.pinned (OpenSpec.upto gridAnswersSpec)

/-- 'noonmarklaw19.GridPicks', WHERE WHAT IT READS IS OF BULK AT MOST 1048576: true; the input reads as it did. -/
def gridPicksUptoRow : OpenClaim := { program := "yteibodpeknlchaa", sum := "2d22435aaa9ad6e18fb14586b3b58d0aa3d7fcb7cc4e35b33b7e265cfa2d4532", func := "noonmark/noonmarklaw19.GridPicks", spec := "gridPicks", inPlace := ["math/bits.Add64"], named := ["math/bits.divideError", "math/bits.overflowError"], apart := false, narrowed := true }
def GridPicksUptoSaid : Prop := gridPicksUptoRow.holds Try.pinned (OpenSpec.upto gridPicksSpec)

/-- 'noonmarklaw19.GridParts', WHERE WHAT IT READS IS OF BULK AT MOST 1048576: true; the input reads as it did. -/
def gridPartsUptoRow : OpenClaim := { program := "yteibodpeknlchaa", sum := "2d22435aaa9ad6e18fb14586b3b58d0aa3d7fcb7cc4e35b33b7e265cfa2d4532", func := "noonmark/noonmarklaw19.GridParts", spec := "gridParts", inPlace := ["math/bits.Add64"], named := ["math/bits.divideError", "math/bits.overflowError"], apart := false, narrowed := true }
def GridPartsUptoSaid : Prop := gridPartsUptoRow.holds Try.pinned (OpenSpec.upto gridPartsSpec)

/-- 'noonmarklaw19.GridWithin', WHERE WHAT IT READS IS OF BULK AT MOST 1048576: true; the input reads as it did. -/
def gridWithinUptoRow : OpenClaim := { program := "yteibodpeknlchaa", sum := "2d22435aaa9ad6e18fb14586b3b58d0aa3d7fcb7cc4e35b33b7e265cfa2d4532", func := "noonmark/noonmarklaw19.GridWithin", spec := "gridWithin", inPlace := ["math/bits.Add64"], unfollowed := true, recurses := true, named := ["math/bits.divideError", "math/bits.overflowError"], apart := false, narrowed := true }
def GridWithinUptoSaid : Prop := gridWithinUptoRow.holds Try.pinned (OpenSpec.upto gridWithinSpec)

end Rows
end Go.Proofs.Yteibodpeknlchaa

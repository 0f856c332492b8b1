/-
  No cell of these rows narrows 'for every input' (looked for: loops, veiled, ifaces, maps, wideKeys, modest, calm, conditions, laid).
  DERIVED. THE GIVEN ROWS OF THIS SEAT. 5 by the template 'for every input the law returns true; each argument reads behind the call as it read before'; 0 by the template 'total and deterministic' (their statements: YtnfideifgegijaaTotals.lean).
  GIVEN WITH THE SEED: the statements are not yours to turn. If you find one false, say at which input.
  Laid BY PROGRAM, IN A SANDBOX (cutbox-rows.mjs): the forced cells as the released guide's own fill.sh prints them over the translation c2e6744dcb274f09… (all of the seat's roots in one cut). By AI agents, Wed Nov 11 2026. No macro, syntax, notation, axiom, sorry.
-/
import Derived.Test.YtnfideifgegijaaChecked
import GoSem.Claim
import GoSem.ClaimJoined
import GoSem.ClaimMapViews
import Derived.JoinedTies
import Derived.KernelRfl
namespace Go.Proofs.Ytnfideifgegijaa
/- THE CELL 'sum', in the pinned program and in every row, IS THE sha256 OF THE DUMP (.gsa) THAT YtnfideifgegijaaProg.lean LOADS. Nothing in Lean hashes anything: it is a label: what it is worth is what the hold of that sum in a sandbox is worth. -/
noncomputable def Try.pinned : Pinned := { name := "ytnfideifgegijaa", sum := "c2e6744dcb274f090b20357f2e53ce5d65ee3a3b710e701ea64aa11ff4afeaa8", checked := Try.checked }
namespace Rows
def none {H : Type} : Left H := { results := [], args := [] }

/-- 'noonmarklaw02.WideAnswers': WHATEVER THE INPUT: true; the input reads as it did. -/
def wideAnswersSpec : ChangeSpec := { name := "wideAnswers", fn := fun _ => fun
  | [d1, d2] => { results := [.lit (.bool true)], args := [d1, d2] }
  | _ => none }
def wideAnswersRow : OpenClaim := { program := "ytnfideifgegijaa", sum := "c2e6744dcb274f090b20357f2e53ce5d65ee3a3b710e701ea64aa11ff4afeaa8", func := "noonmark/noonmarklaw02.WideAnswers", spec := "wideAnswers", inPlace := ["math/bits.Add64"], named := ["math/bits.divideError", "math/bits.overflowError"], apart := false }
def WideAnswersSaid : Prop := wideAnswersRow.holds Try.pinned (OpenSpec.ofChange wideAnswersSpec)

/-- ITS FALSE NEIGHBOUR: 'it returns false'. Refute it at one input. -/
def wideAnswersWrong : ChangeSpec := { name := "wideAnswers", fn := fun _ => fun
  | [d1, d2] => { results := [.lit (.bool false)], args := [d1, d2] }
  | _ => none }
def WideAnswersWrongFalsely : Prop := wideAnswersRow.holds Try.pinned (OpenSpec.ofChange wideAnswersWrong)

/-- 'noonmarklaw02.WideSums': WHATEVER THE INPUT: true; the input reads as it did. -/
def wideSumsSpec : ChangeSpec := { name := "wideSums", fn := fun _ => fun
  | [d1, d2, d3] => { results := [.lit (.bool true)], args := [d1, d2, d3] }
  | _ => none }
def wideSumsRow : OpenClaim := { program := "ytnfideifgegijaa", sum := "c2e6744dcb274f090b20357f2e53ce5d65ee3a3b710e701ea64aa11ff4afeaa8", func := "noonmark/noonmarklaw02.WideSums", spec := "wideSums", inPlace := ["math/bits.Add64"], named := ["math/bits.divideError", "math/bits.overflowError"], apart := false }
def WideSumsSaid : Prop := wideSumsRow.holds Try.pinned (OpenSpec.ofChange wideSumsSpec)

/-- ITS FALSE NEIGHBOUR: 'it returns false'. Refute it at one input. -/
def wideSumsWrong : ChangeSpec := { name := "wideSums", fn := fun _ => fun
  | [d1, d2, d3] => { results := [.lit (.bool false)], args := [d1, d2, d3] }
  | _ => none }
def WideSumsWrongFalsely : Prop := wideSumsRow.holds Try.pinned (OpenSpec.ofChange wideSumsWrong)

/-- 'noonmarklaw02.WideTexts': WHATEVER THE INPUT: true; the input reads as it did. -/
def wideTextsSpec : ChangeSpec := { name := "wideTexts", fn := fun _ => fun
  | [d1, d2] => { results := [.lit (.bool true)], args := [d1, d2] }
  | _ => none }
def wideTextsRow : OpenClaim := { program := "ytnfideifgegijaa", sum := "c2e6744dcb274f090b20357f2e53ce5d65ee3a3b710e701ea64aa11ff4afeaa8", func := "noonmark/noonmarklaw02.WideTexts", spec := "wideTexts", inPlace := ["math/bits.Add64"], named := ["math/bits.divideError", "math/bits.overflowError"], apart := false }
def WideTextsSaid : Prop := wideTextsRow.holds Try.pinned (OpenSpec.ofChange wideTextsSpec)

/-- ITS FALSE NEIGHBOUR: 'it returns false'. Refute it at one input. -/
def wideTextsWrong : ChangeSpec := { name := "wideTexts", fn := fun _ => fun
  | [d1, d2] => { results := [.lit (.bool false)], args := [d1, d2] }
  | _ => none }
def WideTextsWrongFalsely : Prop := wideTextsRow.holds Try.pinned (OpenSpec.ofChange wideTextsWrong)

/-- 'noonmarklaw02.WideBytes': WHATEVER THE INPUT: true; the input reads as it did. -/
def wideBytesSpec : ChangeSpec := { name := "wideBytes", fn := fun _ => fun
  | [d1, d2, d3] => { results := [.lit (.bool true)], args := [d1, d2, d3] }
  | _ => none }
def wideBytesRow : OpenClaim := { program := "ytnfideifgegijaa", sum := "c2e6744dcb274f090b20357f2e53ce5d65ee3a3b710e701ea64aa11ff4afeaa8", func := "noonmark/noonmarklaw02.WideBytes", spec := "wideBytes", inPlace := ["math/bits.Add64"], named := ["math/bits.divideError", "math/bits.overflowError"], apart := false }
def WideBytesSaid : Prop := wideBytesRow.holds Try.pinned (OpenSpec.ofChange wideBytesSpec)

/-- ITS FALSE NEIGHBOUR: 'it returns false'. Refute it at one input. -/
def wideBytesWrong : ChangeSpec := { name := "wideBytes", fn := fun _ => fun
  | [d1, d2, d3] => { results := [.lit (.bool false)], args := [d1, d2, d3] }
  | _ => none }
def WideBytesWrongFalsely : Prop := wideBytesRow.holds Try.pinned (OpenSpec.ofChange wideBytesWrong)

/-- 'noonmarklaw02.WideSwaps': WHATEVER THE INPUT: true; the input reads as it did. -/
def wideSwapsSpec : ChangeSpec := { name := "wideSwaps", fn := fun _ => fun
  | [d1, d2, d3, d4, d5] => { results := [.lit (.bool true)], args := [d1, d2, d3, d4, d5] }
  | _ => none }
def wideSwapsRow : OpenClaim := { program := "ytnfideifgegijaa", sum := "c2e6744dcb274f090b20357f2e53ce5d65ee3a3b710e701ea64aa11ff4afeaa8", func := "noonmark/noonmarklaw02.WideSwaps", spec := "wideSwaps", inPlace := ["math/bits.Add64"], named := ["math/bits.divideError", "math/bits.overflowError"], apart := false }
def WideSwapsSaid : Prop := wideSwapsRow.holds Try.pinned (OpenSpec.ofChange wideSwapsSpec)

/-- ITS FALSE NEIGHBOUR: 'it returns false'. Refute it at one input. -/
def wideSwapsWrong : ChangeSpec := { name := "wideSwaps", fn := fun _ => fun
  | [d1, d2, d3, d4, d5] => { results := [.lit (.bool false)], args := [d1, d2, d3, d4, d5] }
  | _ => none }
def WideSwapsWrongFalsely : Prop := wideSwapsRow.holds Try.pinned (OpenSpec.ofChange wideSwapsWrong)

/- THE SECOND FORM. 'bulk': how many values and letters a reading holds, each counted each time it is reached (what is shared counts as often as it is met; a slice's spare places count too). A statement '..UptoSaid' is the law's where the arguments, and the package variables that the reading takes, are together of bulk at most 1048576: NARROWER than '..Said'. Prove '..Said' where nothing that the law and all that it calls make is longer than what came in: it says more and counts as full. Else prove '..UptoSaid'. A law counts once. -/
mutual
def uptoBulk {H : Type} : DataW H → Nat
  | .lit (.string bytes) => bytes.length + 1
  | .lit _ => 1
  | .nil => 1
  | .ptr d => uptoBulk d + 1
  | .slice elems spare => uptoBulkAll elems + uptoBulkAll spare + 1
  | .agg parts => uptoBulkAll parts + 1
  | .iface _ d => uptoBulk d + 1
  | .map entries => uptoBulkEntries entries + 1
  | .held _ => 1
def uptoBulkAll {H : Type} : List (DataW H) → Nat
  | [] => 0
  | d :: r => uptoBulk d + uptoBulkAll r
def uptoBulkEntries {H : Type} : List (Lit × DataW H) → Nat
  | [] => 0
  | x :: r => uptoBulkEntry x + uptoBulkEntries r
def uptoBulkEntry {H : Type} : Lit × DataW H → Nat
  | (.string bytes, d) => bytes.length + uptoBulk d + 1
  | (_, d) => uptoBulk d + 1
 end
def uptoSmall : (H : Type) → List (DataW H) → Bool := fun _ ds => decide (uptoBulkAll ds ≤ 1048576)
def OpenSpec.upto (s : _root_.Go.ChangeSpec) : _root_.Go.OpenSpec := { _root_.Go.OpenSpec.ofChange s with cond := some uptoSmall }

/-- 'noonmarklaw02.WideAnswers', WHERE WHAT IT READS IS OF BULK AT MOST 1048576: true; the input reads as it did. -/
def wideAnswersUptoRow : OpenClaim := { program := "ytnfideifgegijaa", sum := "c2e6744dcb274f090b20357f2e53ce5d65ee3a3b710e701ea64aa11ff4afeaa8", func := "noonmark/noonmarklaw02.WideAnswers", spec := "wideAnswers", inPlace := ["math/bits.Add64"], named := ["math/bits.divideError", "math/bits.overflowError"], apart := false, narrowed := true }
def WideAnswersUptoSaid : Prop := wideAnswersUptoRow.holds Try.pinned (OpenSpec.upto wideAnswersSpec)

/-- 'noonmarklaw02.WideSums', WHERE WHAT IT READS IS OF BULK AT MOST 1048576: true; the input reads as it did. -/
def wideSumsUptoRow : OpenClaim := { program := "ytnfideifgegijaa", sum := "c2e6744dcb274f090b20357f2e53ce5d65ee3a3b710e701ea64aa11ff4afeaa8", func := "noonmark/noonmarklaw02.WideSums", spec := "wideSums", inPlace := ["math/bits.Add64"], named := ["math/bits.divideError", "math/bits.overflowError"], apart := false, narrowed := true }
def WideSumsUptoSaid : Prop := wideSumsUptoRow.holds Try.pinned (OpenSpec.upto wideSumsSpec)

/-- 'noonmarklaw02.WideTexts', WHERE WHAT IT READS IS OF BULK AT MOST 1048576: true; the input reads as it did. -/
def wideTextsUptoRow : OpenClaim := { program := "ytnfideifgegijaa", sum := "c2e6744dcb274f090b20357f2e53ce5d65ee3a3b710e701ea64aa11ff4afeaa8", func := "noonmark/noonmarklaw02.WideTexts", spec := "wideTexts", inPlace := ["math/bits.Add64"], named := ["math/bits.divideError", "math/bits.overflowError"], apart := false, narrowed := true }
def WideTextsUptoSaid : Prop := wideTextsUptoRow.holds Try.pinned (OpenSpec.upto wideTextsSpec)

/-- 'noonmarklaw02.WideBytes', WHERE WHAT IT READS IS OF BULK AT MOST 1048576: true; the input reads as it did. -/
def wideBytesUptoRow : OpenClaim := { program := "ytnfideifgegijaa", sum := "c2e6744dcb274f090b20357f2e53ce5d65ee3a3b710e701ea64aa11ff4afeaa8", func := "noonmark/noonmarklaw02.WideBytes", spec := "wideBytes", inPlace := ["math/bits.Add64"], named := ["math/bits.divideError", "math/bits.overflowError"], apart := false, narrowed := true }
def WideBytesUptoSaid : Prop := wideBytesUptoRow.holds Try.pinned (OpenSpec.upto wideBytesSpec)

/-- 'noonmarklaw02.WideSwaps', WHERE WHAT IT READS IS OF BULK AT MOST 1048576: true; the input reads as it did. -/
def wideSwapsUptoRow : OpenClaim := { program := "ytnfideifgegijaa", sum := "c2e6744dcb274f090b20357f2e53ce5d65ee3a3b710e701ea64aa11ff4afeaa8", func := "noonmark/noonmarklaw02.WideSwaps", spec := "wideSwaps", inPlace := ["math/bits.Add64"], named := ["math/bits.divideError", "math/bits.overflowError"], apart := false, narrowed := true }
def WideSwapsUptoSaid : Prop := wideSwapsUptoRow.holds Try.pinned (OpenSpec.upto wideSwapsSpec)

end Rows
end Go.Proofs.Ytnfideifgegijaa

/-
  No cell of these rows narrows 'for every input' (looked for: loops, veiled, ifaces, maps, wideKeys, modest, calm, conditions, laid).
  DERIVED. THE GIVEN ROWS OF THIS SEAT. 3 by the template 'for every input the law returns true; each argument reads behind the call as it read before'; 0 by the template 'total and deterministic' (their statements: YtiffedgmageiaaaTotals.lean).
  GIVEN WITH THE SEED: the statements are not yours to turn. If you find one false, say at which input.
  Laid BY PROGRAM, IN A SANDBOX (cutbox-rows.mjs): the forced cells as the released guide's own fill.sh prints them over the translation 8ed10affcf22c499… (all of the seat's roots in one cut). By AI agents, Wed Nov 11 2026. No macro, syntax, notation, axiom, sorry.
-/
import Derived.Test.YtiffedgmageiaaaChecked
import GoSem.Claim
import GoSem.ClaimJoined
import GoSem.ClaimMapViews
import Derived.JoinedTies
import Derived.KernelRfl
namespace Go.Proofs.Ytiffedgmageiaaa
/- THE CELL 'sum', in the pinned program and in every row, IS THE sha256 OF THE DUMP (.gsa) THAT YtiffedgmageiaaaProg.lean LOADS. Nothing in Lean hashes anything: it is a label: what it is worth is what the hold of that sum in a sandbox is worth. -/
noncomputable def Try.pinned : Pinned := { name := "ytiffedgmageiaaa", sum := "8ed10affcf22c499fc3d7c892590b28569aa9cfbe310682347bf54db8b99ef8a", checked := Try.checked }
namespace Rows
def none {H : Type} : Left H := { results := [], args := [] }

/-- 'noonmarklaw15.RollCalls': WHATEVER THE INPUT: true; the input reads as it did. -/
def rollCallsSpec : ChangeSpec := { name := "rollCalls", fn := fun _ => fun
  | [d1, d2, d3, d4] => { results := [.lit (.bool true)], args := [d1, d2, d3, d4] }
  | _ => none }
def rollCallsRow : OpenClaim := { program := "ytiffedgmageiaaa", sum := "8ed10affcf22c499fc3d7c892590b28569aa9cfbe310682347bf54db8b99ef8a", func := "noonmark/noonmarklaw15.RollCalls", spec := "rollCalls", inPlace := ["maps.clone"], unfollowed := true, recurses := true, plainKeys := false, apart := false }
def RollCallsSaid : Prop := rollCallsRow.holds Try.pinned (OpenSpec.ofChange rollCallsSpec)

/-- ITS FALSE NEIGHBOUR: 'it returns false'. Refute it at one input. -/
def rollCallsWrong : ChangeSpec := { name := "rollCalls", fn := fun _ => fun
  | [d1, d2, d3, d4] => { results := [.lit (.bool false)], args := [d1, d2, d3, d4] }
  | _ => none }
def RollCallsWrongFalsely : Prop := rollCallsRow.holds Try.pinned (OpenSpec.ofChange rollCallsWrong)

/-- 'noonmarklaw15.RollRises': WHATEVER THE INPUT: true; the input reads as it did. -/
def rollRisesSpec : ChangeSpec := { name := "rollRises", fn := fun _ => fun
  | [d1, d2] => { results := [.lit (.bool true)], args := [d1, d2] }
  | _ => none }
def rollRisesRow : OpenClaim := { program := "ytiffedgmageiaaa", sum := "8ed10affcf22c499fc3d7c892590b28569aa9cfbe310682347bf54db8b99ef8a", func := "noonmark/noonmarklaw15.RollRises", spec := "rollRises", inPlace := ["maps.clone"], unfollowed := true, recurses := true, plainKeys := false, apart := false }
def RollRisesSaid : Prop := rollRisesRow.holds Try.pinned (OpenSpec.ofChange rollRisesSpec)

/-- ITS FALSE NEIGHBOUR: 'it returns false'. Refute it at one input. -/
def rollRisesWrong : ChangeSpec := { name := "rollRises", fn := fun _ => fun
  | [d1, d2] => { results := [.lit (.bool false)], args := [d1, d2] }
  | _ => none }
def RollRisesWrongFalsely : Prop := rollRisesRow.holds Try.pinned (OpenSpec.ofChange rollRisesWrong)

/-- 'noonmarklaw15.RollCopies': WHATEVER THE INPUT: true; the input reads as it did. -/
def rollCopiesSpec : ChangeSpec := { name := "rollCopies", fn := fun _ => fun
  | [d1, d2, d3] => { results := [.lit (.bool true)], args := [d1, d2, d3] }
  | _ => none }
def rollCopiesRow : OpenClaim := { program := "ytiffedgmageiaaa", sum := "8ed10affcf22c499fc3d7c892590b28569aa9cfbe310682347bf54db8b99ef8a", func := "noonmark/noonmarklaw15.RollCopies", spec := "rollCopies", inPlace := ["maps.clone"], unfollowed := true, recurses := true, plainKeys := false, apart := false }
def RollCopiesSaid : Prop := rollCopiesRow.holds Try.pinned (OpenSpec.ofChange rollCopiesSpec)

/-- ITS FALSE NEIGHBOUR: 'it returns false'. Refute it at one input. -/
def rollCopiesWrong : ChangeSpec := { name := "rollCopies", fn := fun _ => fun
  | [d1, d2, d3] => { results := [.lit (.bool false)], args := [d1, d2, d3] }
  | _ => none }
def RollCopiesWrongFalsely : Prop := rollCopiesRow.holds Try.pinned (OpenSpec.ofChange rollCopiesWrong)

/- THE SECOND FORM. 'bulk': how many values and letters a reading holds, each counted each time it is reached (what is shared counts as often as it is met; a slice's spare places count too). A statement '..UptoSaid' is the law's where the arguments, and the package variables that the reading takes, are together of bulk at most 1048576: NARROWER than '..Said'. Prove '..Said' where nothing that the law and all that it calls make is longer than what came in: it says more and counts as full. Else prove '..UptoSaid'. A law counts once. -/
mutual
def uptoBulk {H : Type} : DataW H → Nat
  | .lit (.string bytes) => bytes.length + 1
  | .lit _ => 1
  | .nil => 1
  | .ptr d => uptoBulk d + 1
  | .slice elems spare => uptoBulkAll elems + uptoBulkAll spare + 1
  | .agg parts => uptoBulkAll parts + 1
  | .iface _ d => uptoBulk d + 1
  | .map entries => uptoBulkEntries entries + 1
  | .held _ => 1
def uptoBulkAll {H : Type} : List (DataW H) → Nat
  | [] => 0
  | d :: r => uptoBulk d + uptoBulkAll r
def uptoBulkEntries {H : Type} : List (Lit × DataW H) → Nat
  | [] => 0
  | x :: r => uptoBulkEntry x + uptoBulkEntries r
def uptoBulkEntry {H : Type} : Lit × DataW H → Nat
  | (.string bytes, d) => bytes.length + uptoBulk d + 1
  | (_, d) => uptoBulk d + 1
 end
def uptoSmall : (H : Type) → List (DataW H) → Bool := fun _ ds => decide (uptoBulkAll ds ≤ 1048576)
def OpenSpec.upto (s : _root_.Go.ChangeSpec) : _root_.Go.OpenSpec := { _root_.Go.OpenSpec.ofChange s with cond := some uptoSmall }

/-- 'noonmarklaw15.RollCalls', WHERE WHAT IT READS IS OF BULK AT MOST 1048576: true; the input reads as it did. -/
def rollCallsUptoRow : OpenClaim := { program := "ytiffedgmageiaaa", sum := "8ed10affcf22c499fc3d7c892590b28569aa9cfbe310682347bf54db8b99ef8a", func := "noonmark/noonmarklaw15.RollCalls", spec := "rollCalls", inPlace := ["maps.clone"], unfollowed := true, recurses := true, plainKeys := false, apart := false, narrowed := true }
def RollCallsUptoSaid : Prop := rollCallsUptoRow.holds Try.pinned (OpenSpec.upto rollCallsSpec)

/-- 'noonmarklaw15.RollRises', WHERE WHAT IT READS IS OF BULK AT MOST 1048576: true; the input reads as it did. -/
def rollRisesUptoRow : OpenClaim := { program := "ytiffedgmageiaaa", sum := "8ed10affcf22c499fc3d7c892590b28569aa9cfbe310682347bf54db8b99ef8a", func := "noonmark/noonmarklaw15.RollRises", spec := "rollRises", inPlace := ["maps.clone"], unfollowed := true, recurses := true, plainKeys := false, apart := false, narrowed := true }
def RollRisesUptoSaid : Prop := rollRisesUptoRow.holds Try.pinned (OpenSpec.upto rollRisesSpec)

/-- 'noonmarklaw15.RollCopies', WHERE WHAT IT READS IS OF BULK AT MOST 1048576: true; the input reads as it did. -/
def rollCopiesUptoRow : OpenClaim := { program := "ytiffedgmageiaaa", sum := "8ed10affcf22c499fc3d7c892590b28569aa9cfbe310682347bf54db8b99ef8a", func := "noonmark/noonmarklaw15.RollCopies", spec := "rollCopies", inPlace := ["maps.clone"], unfollowed := true, recurses := true, plainKeys := false, apart := false, narrowed := true }
def RollCopiesUptoSaid : Prop := rollCopiesUptoRow.holds Try.pinned (OpenSpec.upto rollCopiesSpec)

end Rows
end Go.Proofs.Ytiffedgmageiaaa

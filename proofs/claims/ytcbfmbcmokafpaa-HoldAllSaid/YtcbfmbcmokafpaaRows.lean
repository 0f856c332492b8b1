/-
  No cell of these rows narrows 'for every input' (looked for: loops, veiled, ifaces, maps, wideKeys, modest, calm, conditions, laid).
  DERIVED. THE GIVEN ROWS OF THIS SEAT. 4 by the template 'for every input the law returns true; each argument reads behind the call as it read before'; 0 by the template 'total and deterministic' (their statements: YtcbfmbcmokafpaaTotals.lean).
  GIVEN WITH THE SEED: the statements are not yours to turn. If you find one false, say at which input.
  Laid BY PROGRAM, IN A SANDBOX (cutbox-rows.mjs): the forced cells as the released guide's own fill.sh prints them over the translation 71b1d0c6936feddb… (all of the seat's roots in one cut). By AI agents, Wed Nov 11 2026. No macro, syntax, notation, axiom, sorry.
-/
import Derived.Test.YtcbfmbcmokafpaaChecked
import GoSem.Claim
import GoSem.ClaimJoined
import GoSem.ClaimMapViews
import Derived.JoinedTies
import Derived.KernelRfl
namespace Go.Proofs.Ytcbfmbcmokafpaa
/- THE CELL 'sum', in the pinned program and in every row, IS THE sha256 OF THE DUMP (.gsa) THAT YtcbfmbcmokafpaaProg.lean LOADS. Nothing in Lean hashes anything: it is a label: what it is worth is what the hold of that sum in a sandbox is worth. -/
noncomputable def Try.pinned : Pinned := { name := "ytcbfmbcmokafpaa", sum := "71b1d0c6936feddbca61bfc8baabd2c1d2ba1a2a0f130ad34cba846c372dd7bf", checked := Try.checked }
namespace Rows
def none {H : Type} : Left H := { results := [], args := [] }

/-- 'noonmarklaw13.HoldCalls': WHATEVER THE INPUT: true; the input reads as it did. -/
def holdCallsSpec : ChangeSpec := { name := "holdCalls", fn := fun _ => fun
  | [d1, d2, d3] => { results := [.lit (.bool true)], args := [d1, d2, d3] }
  | _ => none }
def holdCallsRow : OpenClaim := { program := "ytcbfmbcmokafpaa", sum := "71b1d0c6936feddbca61bfc8baabd2c1d2ba1a2a0f130ad34cba846c372dd7bf", func := "noonmark/noonmarklaw13.HoldCalls", spec := "holdCalls", inPlace := ["maps.clone"], unfollowed := true, recurses := true, apart := false }
def HoldCallsSaid : Prop := holdCallsRow.holds Try.pinned (OpenSpec.ofChange holdCallsSpec)

/-- ITS FALSE NEIGHBOUR: 'it returns false'. Refute it at one input. -/
def holdCallsWrong : ChangeSpec := { name := "holdCalls", fn := fun _ => fun
  | [d1, d2, d3] => { results := [.lit (.bool false)], args := [d1, d2, d3] }
  | _ => none }
def HoldCallsWrongFalsely : Prop := holdCallsRow.holds Try.pinned (OpenSpec.ofChange holdCallsWrong)

/-- 'noonmarklaw13.HoldOrder': WHATEVER THE INPUT: true; the input reads as it did. -/
def holdOrderSpec : ChangeSpec := { name := "holdOrder", fn := fun _ => fun
  | [d1, d2, d3] => { results := [.lit (.bool true)], args := [d1, d2, d3] }
  | _ => none }
def holdOrderRow : OpenClaim := { program := "ytcbfmbcmokafpaa", sum := "71b1d0c6936feddbca61bfc8baabd2c1d2ba1a2a0f130ad34cba846c372dd7bf", func := "noonmark/noonmarklaw13.HoldOrder", spec := "holdOrder", inPlace := ["maps.clone"], unfollowed := true, recurses := true, apart := false }
def HoldOrderSaid : Prop := holdOrderRow.holds Try.pinned (OpenSpec.ofChange holdOrderSpec)

/-- ITS FALSE NEIGHBOUR: 'it returns false'. Refute it at one input. -/
def holdOrderWrong : ChangeSpec := { name := "holdOrder", fn := fun _ => fun
  | [d1, d2, d3] => { results := [.lit (.bool false)], args := [d1, d2, d3] }
  | _ => none }
def HoldOrderWrongFalsely : Prop := holdOrderRow.holds Try.pinned (OpenSpec.ofChange holdOrderWrong)

/-- 'noonmarklaw13.HoldAll': WHATEVER THE INPUT: true; the input reads as it did. -/
def holdAllSpec : ChangeSpec := { name := "holdAll", fn := fun _ => fun
  | [d1, d2, d3] => { results := [.lit (.bool true)], args := [d1, d2, d3] }
  | _ => none }
def holdAllRow : OpenClaim := { program := "ytcbfmbcmokafpaa", sum := "71b1d0c6936feddbca61bfc8baabd2c1d2ba1a2a0f130ad34cba846c372dd7bf", func := "noonmark/noonmarklaw13.HoldAll", spec := "holdAll", inPlace := ["maps.clone"], unfollowed := true, recurses := true, apart := false }
def HoldAllSaid : Prop := holdAllRow.holds Try.pinned (OpenSpec.ofChange holdAllSpec)

/-- ITS FALSE NEIGHBOUR: 'it returns false'. Refute it at one input. -/
def holdAllWrong : ChangeSpec := { name := "holdAll", fn := fun _ => fun
  | [d1, d2, d3] => { results := [.lit (.bool false)], args := [d1, d2, d3] }
  | _ => none }
def HoldAllWrongFalsely : Prop := holdAllRow.holds Try.pinned (OpenSpec.ofChange holdAllWrong)

/-- 'noonmarklaw13.HoldAgain': WHATEVER THE INPUT: true; the input reads as it did. -/
def holdAgainSpec : ChangeSpec := { name := "holdAgain", fn := fun _ => fun
  | [d1, d2, d3] => { results := [.lit (.bool true)], args := [d1, d2, d3] }
  | _ => none }
def holdAgainRow : OpenClaim := { program := "ytcbfmbcmokafpaa", sum := "71b1d0c6936feddbca61bfc8baabd2c1d2ba1a2a0f130ad34cba846c372dd7bf", func := "noonmark/noonmarklaw13.HoldAgain", spec := "holdAgain", inPlace := ["maps.clone"], unfollowed := true, recurses := true, apart := false }
def HoldAgainSaid : Prop := holdAgainRow.holds Try.pinned (OpenSpec.ofChange holdAgainSpec)

/-- ITS FALSE NEIGHBOUR: 'it returns false'. Refute it at one input. -/
def holdAgainWrong : ChangeSpec := { name := "holdAgain", fn := fun _ => fun
  | [d1, d2, d3] => { results := [.lit (.bool false)], args := [d1, d2, d3] }
  | _ => none }
def HoldAgainWrongFalsely : Prop := holdAgainRow.holds Try.pinned (OpenSpec.ofChange holdAgainWrong)

/- THE SECOND FORM. 'bulk': how many values and letters a reading holds, each counted each time it is reached (what is shared counts as often as it is met; a slice's spare places count too). A statement '..UptoSaid' is the law's where the arguments, and the package variables that the reading takes, are together of bulk at most 1048576: NARROWER than '..Said'. Prove '..Said' where nothing that the law and all that it calls make is longer than what came in: it says more and counts as full. Else prove '..UptoSaid'. A law counts once. -/
mutual
def uptoBulk {H : Type} : DataW H → Nat
  | .lit (.string bytes) => bytes.length + 1
  | .lit _ => 1
  | .nil => 1
  | .ptr d => uptoBulk d + 1
  | .slice elems spare => uptoBulkAll elems + uptoBulkAll spare + 1
  | .agg parts => uptoBulkAll parts + 1
  | .iface _ d => uptoBulk d + 1
  | .map entries => uptoBulkEntries entries + 1
  | .held _ => 1
def uptoBulkAll {H : Type} : List (DataW H) → Nat
  | [] => 0
  | d :: r => uptoBulk d + uptoBulkAll r
def uptoBulkEntries {H : Type} : List (Lit × DataW H) → Nat
  | [] => 0
  | x :: r => uptoBulkEntry x + uptoBulkEntries r
def uptoBulkEntry {H : Type} : Lit × DataW H → Nat
  | (.string bytes, d) => bytes.length + uptoBulk d + 1
  | (_, d) => uptoBulk d + 1
 end
def uptoSmall : (H : Type) → List (DataW H) → Bool := fun _ ds => decide (uptoBulkAll ds ≤ 1048576)
def OpenSpec.upto (s : _root_.Go.ChangeSpec) : _root_.Go.OpenSpec := { _root_.Go.OpenSpec.ofChange s with cond := some uptoSmall }

/-- 'noonmarklaw13.HoldCalls', WHERE WHAT IT READS IS OF BULK AT MOST 1048576: true; the input reads as it did. -/
def holdCallsUptoRow : OpenClaim := { program := "ytcbfmbcmokafpaa", sum := "71b1d0c6936feddbca61bfc8baabd2c1d2ba1a2a0f130ad34cba846c372dd7bf", func := "noonmark/noonmarklaw13.HoldCalls", spec := "holdCalls", inPlace := ["maps.clone"], unfollowed := true, recurses := true, apart := false, narrowed := true }
def HoldCallsUptoSaid : Prop := holdCallsUptoRow.holds Try.pinned (OpenSpec.upto holdCallsSpec)

/-- 'noonmarklaw13.HoldOrder', WHERE WHAT IT READS IS OF BULK AT MOST 1048576: true; the input reads as it did. -/
def holdOrderUptoRow : OpenClaim := { program := "ytcbfmbcmokafpaa", sum := "71b1d0c6936feddbca61bfc8baabd2c1d2ba1a2a0f130ad34cba846c372dd7bf", func := "noonmark/noonmarklaw13.HoldOrder", spec := "holdOrder", inPlace := ["maps.clone"], unfollowed := true, recurses := true, apart := false, narrowed := true }
def HoldOrderUptoSaid : Prop := holdOrderUptoRow.holds Try.pinned (OpenSpec.upto holdOrderSpec)

/-- 'noonmarklaw13.HoldAll', WHERE WHAT IT READS IS OF BULK AT MOST 1048576: true; the input reads as it did. -/
def holdAllUptoRow : OpenClaim := { program := "ytcbfmbcmokafpaa", sum := "71b1d0c6936feddbca61bfc8baabd2c1d2ba1a2a0f130ad34cba846c372dd7bf", func := "noonmark/noonmarklaw13.HoldAll", spec := "holdAll", inPlace := ["maps.clone"], unfollowed := true, recurses := true, apart := false, narrowed := true }
def HoldAllUptoSaid : Prop := holdAllUptoRow.holds Try.pinned (OpenSpec.upto holdAllSpec)

/-- 'noonmarklaw13.HoldAgain', WHERE WHAT IT READS IS OF BULK AT MOST 1048576: true; the input reads as it did. -/
def holdAgainUptoRow : OpenClaim := { program := "ytcbfmbcmokafpaa", sum := "71b1d0c6936feddbca61bfc8baabd2c1d2ba1a2a0f130ad34cba846c372dd7bf", func := "noonmark/noonmarklaw13.HoldAgain", spec := "holdAgain", inPlace := ["maps.clone"], unfollowed := true, recurses := true, apart := false, narrowed := true }
def HoldAgainUptoSaid : Prop := holdAgainUptoRow.holds Try.pinned (OpenSpec.upto holdAgainSpec)

end Rows
end Go.Proofs.Ytcbfmbcmokafpaa

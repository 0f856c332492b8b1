/- Pointers: checks for nil. -/
import Derived.Test.YtiffedgmageiaaaText
import Derived.Test.YtiffedgmageiaaaDraw
namespace Go.Proofs.Ytiffedgmageiaaa.B
set_option linter.unusedVariables false
set_option linter.unusedSimpArgs false
section
variable {P : Program} {ops : Array Oper} {C : World → Prop} {K : Regs → Prop} {r : Regs} {os : List Oper}
  {d : Nat} {ty t t' : TypeId} {pos : String} {aft : Array Edge} {g : Option (Nat × Bool)} {x y : Operand}
theorem Q.nilCheck {a : Addr} (hx : ev r x = .pointer (some a)) (hw : wantR ⟨some d, .nilCheck x, ty, pos, aft, g⟩ ops r = true)
    (h : WQ P ops C K os (upd r d (.pointer (some a)))) : WQ P ops C K (⟨some d, .nilCheck x, ty, pos, aft, g⟩ :: os) r := by
  refine Q.val hw (fun w hC => ?_) h
  simp only [execOp, hx, Sem.run_pure]
end
section
variable {P : Program} {ops : Array Oper} {Q : Exit → Regs → World → Prop} {r : Regs} {w : World} {os : List Oper}
  {d : Nat} {ty t t' : TypeId} {pos : String} {aft : Array Edge} {g : Option (Nat × Bool)} {x y : Operand}
theorem S.eqlNilT {e : TypeId} (ht : P.underlying t = some (.pointer e)) (hx : ev r x = .pointer none) (hy : ev r y = .pointer none) (hw : wantR ⟨some d, .binOp .eql t x y t', ty, pos, aft, g⟩ ops r = true)
    (h : WS P ops Q os (upd r d (.bool true)) w) : WS P ops Q (⟨some d, .binOp .eql t x y t', ty, pos, aft, g⟩ :: os) r w := by
  refine S.val hw ?_ h
  have : eqGuard .eql t x y (.pointer none) (.pointer none) = pure () := by unfold eqGuard; rfl
  have hp : P.underlying t = some (.pointer (P.pointee t)) := by simp [Program.pointee, ht]
  simp only [execOp, hx, hy, this, pure_bind, Sem.run_bind, run_eql_pointer_nil w t none hp, Result.andThen_ok, Option.isNone_none, Sem.run_pure]
end
end Go.Proofs.Ytiffedgmageiaaa.B

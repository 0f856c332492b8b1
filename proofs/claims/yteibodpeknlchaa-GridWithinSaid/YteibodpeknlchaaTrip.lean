/- A struct of three longs that a law is handed. -/
import Derived.Test.YteibodpeknlchaaPair
namespace Go.Proofs.Yteibodpeknlchaa.B
set_option linter.unusedVariables false
set_option linter.unusedSimpArgs false
open Go.RowKit Go.ChangeShapes Go.WideShapes
section
variable {H : Type} {enc : TypeId × Value → H} {P : Program} {W : World}
theorem TR.triple {t : TypeId} {f0 f1 f2 : Field} {k0 k1 k2 : IntKind} {cs : List Value} {d : DataW H} (hu : P.underlying t = some (.struct #[f0, f1, f2])) (h0 : P.underlying f0.type = some (.int k0)) (h1 : P.underlying f1.type = some (.int k1)) (h2 : P.underlying f2.type = some (.int k2))
    (o0 : f0.offset = 0) (o1 : f1.offset = 1) (o2 : f2.offset = 2) (c0 : P.cellsOf f0.type = 1) (c1 : P.cellsOf f1.type = 1) (c2 : P.cellsOf f2.type = 1) (ct : P.cellsOf t = 3) (h : TR enc P W t cs d) (hs : SZ P t d) : ∃ a b c, cs = [.int k0 a, .int k1 b, .int k2 c] ∧ wfI k0 a ∧ wfI k1 b ∧ wfI k2 c := by
  have hl := h.cells hu
  obtain ⟨d0, g0, _⟩ := h.field hu hs 0 (f := f0) rfl
  obtain ⟨d1, g1, _⟩ := h.field hu hs 1 (f := f1) rfl
  obtain ⟨d2, g2, _⟩ := h.field hu hs 2 (f := f2) rfl
  obtain ⟨a, h4, h5⟩ := g0.int h0
  obtain ⟨b, h6, h7⟩ := g1.int h1
  obtain ⟨c, h8, h9⟩ := g2.int h2
  rw [o0, c0] at h4
  rw [o1, c1] at h6
  rw [o2, c2] at h8
  rw [ct] at hl
  match cs, hl with
  | [x, y, z], _ =>
    simp at h4 h6 h8
    exact ⟨a, b, c, by rw [h4, h6, h8], h5, h7, h9⟩
end
end Go.Proofs.Yteibodpeknlchaa.B

/- How rows of calls read that a law is handed. -/
import Derived.Test.YtcbfmbcmokafpaaWalkC
namespace Go.Proofs.Ytcbfmbcmokafpaa.B
set_option linter.unusedVariables false
set_option linter.unusedSimpArgs false
open Go.RowKit Go.ChangeShapes Go.WideShapes
section
variable {H : Type} {enc : TypeId × Value → H} {P : Program} {W : World}
theorem TR.call {t q : TypeId} {f0 f1 f2 : Field} {cs : List Value} {d : DataW H} (hu : P.underlying t = some (.struct #[f0, f1, f2])) (h0 : P.underlying f0.type = some (.int .i64)) (h1 : P.underlying f1.type = some (.int .i64)) (h2 : P.underlying f2.type = some (.slice q)) (hq : P.underlying q = some (.int .i64))
    (o0 : f0.offset = 0) (o1 : f1.offset = 1) (o2 : f2.offset = 2) (c0 : P.cellsOf f0.type = 1) (c1 : P.cellsOf f1.type = 1) (c2 : P.cellsOf f2.type = 1) (cq : P.cellsOf q = 1) (bq : P.bytesOf q = 8) (ct : P.cellsOf t = 3) (h : TR enc P W t cs d) (hs : SZ P t d) :
    ∃ c : CallC, cs = encC c ∧ Ro (knAll W) (encI .i64) 1 c.v c.items ∧ fits c.what ∧ fits c.first ∧ (∀ x ∈ c.items, fits x) ∧ c.items.length ≤ 140737488355328 := by
  have hl := h.cells hu
  obtain ⟨d0, g0, _⟩ := h.field hu hs 0 (f := f0) rfl
  obtain ⟨d1, g1, _⟩ := h.field hu hs 1 (f := f1) rfl
  obtain ⟨d2, g2, s2⟩ := h.field hu hs 2 (f := f2) rfl
  obtain ⟨a, h4, h5⟩ := g0.int h0
  obtain ⟨b, h6, h7⟩ := g1.int h1
  obtain ⟨v, xs, h8, h9, h10, h11⟩ := g2.ints h2 hq cq s2
  rw [o0, c0] at h4
  rw [o1, c1] at h6
  rw [o2, c2] at h8
  rw [ct] at hl
  have hR : reachBytes = 140737488351232 := by decide
  rw [bq, hR] at h11
  match cs, hl with
  | [x, y, z], _ =>
    simp at h4 h6 h8
    exact ⟨⟨a, b, v, xs⟩, by rw [h4, h6, h8]; rfl, h9, fits_wf h5, fits_wf h7, fun x hx => fits_wf (h10 x hx), by simp only; omega⟩
theorem TR.calls {t e q : TypeId} {f0 f1 f2 : Field} {cs : List Value} {d : DataW H} (hu : P.underlying t = some (.slice e)) (he : P.underlying e = some (.struct #[f0, f1, f2])) (h0 : P.underlying f0.type = some (.int .i64)) (h1 : P.underlying f1.type = some (.int .i64)) (h2 : P.underlying f2.type = some (.slice q)) (hq : P.underlying q = some (.int .i64))
    (o0 : f0.offset = 0) (o1 : f1.offset = 1) (o2 : f2.offset = 2) (c0 : P.cellsOf f0.type = 1) (c1 : P.cellsOf f1.type = 1) (c2 : P.cellsOf f2.type = 1) (cq : P.cellsOf q = 1) (bq : P.bytesOf q = 8) (ct : P.cellsOf e = 3) (h : TR enc P W t cs d) (hs : SZ P t d) :
    ∃ v, ∃ xs : List CallC, cs = [v] ∧ RoC (knAll W) v xs ∧ xs.length * P.bytesOf e ≤ reachBytes := by
  obtain ⟨v, xs, g1, g2, g3, g4⟩ := h.slice hu (by rw [ct]; decide) hs
  rw [ct] at g2
  obtain ⟨ys, g5, g6⟩ := B.typed (e2 := encC) (fun c _ => Ro (knAll W) (encI .i64) 1 c.v c.items ∧ fits c.what ∧ fits c.first ∧ (∀ x ∈ c.items, fits x) ∧ c.items.length ≤ 140737488355328) xs (fun x hx => by
    obtain ⟨c, q1, q2⟩ := (g3 x hx).1.call he h0 h1 h2 hq o0 o1 o2 c0 c1 c2 cq bq ct (g3 x hx).2
    exact ⟨c, q1, q2⟩)
  have hl : xs.length = ys.length := by have := congrArg List.length g5; simpa using this
  exact ⟨v, ys, g1, ⟨g2.typed g5, fun c hc => let ⟨_, _, q⟩ := g6 c hc; q⟩, by rw [← hl]; exact g4⟩
end
end Go.Proofs.Ytcbfmbcmokafpaa.B

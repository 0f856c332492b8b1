/- How arrays that a law is handed read. -/
import Derived.Test.YtmmdbincgianaaaArr
namespace Go.Proofs.Ytmmdbincgianaaa.B
set_option linter.unusedVariables false
set_option linter.unusedSimpArgs false
open Go.RowKit Go.ChangeShapes Go.WideShapes
section
variable {H : Type} {enc : TypeId × Value → H} {P : Program} {W : World}
theorem TR.array {t e : TypeId} {m : Nat} {cs : List Value} {d : DataW H} (hu : P.underlying t = some (.array m e)) (h : TR enc P W t cs d) :
    cs.length = P.cellsOf t ∧ ∀ i, i < m → ∃ d', TR enc P W e ((cs.drop (i * P.cellsOf e)).take (P.cellsOf e)) d' := by
  obtain ⟨fuel, ps, h⟩ := h
  cases fuel with
  | zero => simp [DataW.trod] at h
  | succ n =>
    unfold DataW.trod at h
    rw [hu] at h
    split at h <;> simp_all
    rename_i heq
    obtain ⟨rfl, rfl⟩ := heq
    obtain ⟨hl, xs, hp, hd⟩ := h
    intro i hi
    have hlen : xs.length = m := by simpa using mapM_some_length hp
    have hg := mapM_some_get hp i i (by simp [hi])
    have hx : xs[i]? = some xs[i] := List.getElem?_eq_getElem (by omega)
    rw [hx] at hg
    exact ⟨xs[i].1, n, xs[i].2, hg⟩
theorem TR.arr {t e : TypeId} {m : Nat} {cs : List Value} {d : DataW H} (hu : P.underlying t = some (.array m e)) (he : P.underlying e = some (.int .i64)) (ce : P.cellsOf e = 1) (ct : P.cellsOf t = m) (h : TR enc P W t cs d) :
    ∃ xs : List Int, cs = encA xs ∧ xs.length = m ∧ ∀ x ∈ xs, wfI .i64 x := by
  obtain ⟨h1, h2⟩ := h.array hu
  rw [ct] at h1
  have key : ∀ (cs : List Value), (∀ i (hi : i < cs.length), ∃ u, cs[i] = Value.int .i64 u ∧ wfI .i64 u) → ∃ xs : List Int, cs = encA xs ∧ xs.length = cs.length ∧ ∀ x ∈ xs, wfI .i64 x := by
    intro cs
    induction cs with
    | nil => intro _; exact ⟨[], rfl, rfl, fun _ h => by cases h⟩
    | cons c cs ih =>
      intro hc
      obtain ⟨xs, q1, q2, q3⟩ := ih (fun i hi => by
        have := hc (i + 1) (by simp; omega)
        simpa using this)
      obtain ⟨u, g1, g2⟩ := hc 0 (by simp)
      refine ⟨u :: xs, ?_, by simp [q2], fun x hx => ?_⟩
      · rw [q1]; simp at g1; rw [g1]; rfl
      · rcases List.mem_cons.1 hx with rfl | hx
        · exact g2
        · exact q3 x hx
  obtain ⟨xs, q1, q2, q3⟩ := key cs (fun i hi => by
    obtain ⟨d', h3⟩ := h2 i (by omega)
    obtain ⟨u, h4, h5⟩ := h3.int he
    rw [ce, Nat.mul_one] at h4
    refine ⟨u, ?_, h5⟩
    have := congrArg List.head? h4
    rw [List.head?_take, if_neg (by decide), List.head?_drop, List.getElem?_eq_getElem hi] at this
    exact Option.some.inj this)
  exact ⟨xs, q1, by omega, q3⟩
theorem okWide_arr {r : Reach} {base : Nat} {t e : TypeId} {m : Nat} {v : Value} (ht : P.underlying t = some (.array m e)) (h : Value.okWide P W r base t v) : ∃ cs, v = .agg cs := by
  simp only [Value.okWide, ht] at h
  obtain ⟨cs, h1, _⟩ := h
  exact ⟨cs, h1⟩
theorem TR.arrV {r : Reach} {base : Nat} {t e : TypeId} {m : Nat} {v : Value} {d : DataW H} (hu : P.underlying t = some (.array m e)) (he : P.underlying e = some (.int .i64)) (ce : P.cellsOf e = 1) (ct : P.cellsOf t = m) (hv : Value.okWide P W r base t v) (h : TR enc P W t v.cells.toList d) :
    ∃ xs : List Int, v = aV xs ∧ xs.length = m ∧ ∀ x ∈ xs, wfI .i64 x := by
  obtain ⟨cs, rfl⟩ := okWide_arr hu hv
  obtain ⟨xs, h1, h2, h3⟩ := h.arr hu he ce ct
  refine ⟨xs, ?_, h2, h3⟩
  have : cs = aI xs := by apply Array.ext'; exact h1
  rw [this]
theorem TR.arrs {t e q : TypeId} {m : Nat} {cs : List Value} {d : DataW H} (hu : P.underlying t = some (.slice e)) (he : P.underlying e = some (.array m q)) (hq : P.underlying q = some (.int .i64)) (cq : P.cellsOf q = 1) (ce : P.cellsOf e = m) (hm : 0 < m) (h : TR enc P W t cs d) (hs : SZ P t d) :
    ∃ v, ∃ xs : List (List Int), cs = [v] ∧ Ro (knAll W) encA m v xs ∧ (∀ x ∈ xs, ∀ u ∈ x, wfI .i64 u) ∧ xs.length * P.bytesOf e ≤ reachBytes := by
  obtain ⟨v, xs, h1, h2, h3, h4⟩ := h.slice hu (by rw [ce]; exact hm) hs
  rw [ce] at h2
  obtain ⟨ys, h5, h6⟩ := B.typed (e2 := encA) (fun y _ => ∀ u ∈ y, wfI .i64 u) xs (fun x hx => by
    obtain ⟨ys, q1, _, q3⟩ := (h3 x hx).1.arr he hq cq ce
    exact ⟨ys, q1, q3⟩)
  have hl : xs.length = ys.length := by have := congrArg List.length h5; simpa using this
  exact ⟨v, ys, h1, h2.typed h5, fun y hy => let ⟨_, _, q⟩ := h6 y hy; q, by rw [← hl]; exact h4⟩
end
end Go.Proofs.Ytmmdbincgianaaa.B

/- How what a law is handed reads: rows, rows of rows, structs, texts: out of the form's own reading. -/
import Derived.Test.YtiffedgmageiaaaMore
import Derived.SizedLaws
import Derived.ChangeSlices
import Derived.WalkKit
import Derived.ProofKit
import Derived.OpenShut
import Derived.ShutString
import Derived.ChangeOld
import Derived.DataReads
namespace Go.Proofs.Ytiffedgmageiaaa.B
set_option linter.unusedVariables false
set_option linter.unusedSimpArgs false
open Go.RowKit Go.ChangeShapes Go.WideShapes

section
variable {H : Type} {enc : TypeId × Value → H} {P : Program} {W : World}
def TR (enc : TypeId × Value → H) (P : Program) (W : World) (t : TypeId) (cs : List Value) (d : DataW H) : Prop :=
  ∃ fuel ps, DataW.trod enc P W 0 (fun _ => true) true fuel t cs = some (d, ps)
def SZ (P : Program) (t : TypeId) (d : DataW H) : Prop := ∀ n ∈ DataW.weights P t d, n ≤ reachBytes
theorem TR.of {t : TypeId} {v : Value} {d : DataW H} {ps : List MemPlace} (h : DataW.Trod enc P W 0 (fun _ => true) true t v d ps) : TR enc P W t v.cells.toList d :=
  let ⟨fuel, hf⟩ := h; ⟨fuel, ps, hf⟩
theorem SZ.of {ts : List TypeId} {ds : List (DataW H)} (h : (DataW.weightsEach P ts ds).all (· ≤ reachBytes) = true) {j : Nat} {t : TypeId} {d : DataW H} (ht : ts[j]? = some t) (hd : ds[j]? = some d) : SZ P t d := fun n hn => by
  have := List.all_eq_true.1 h n (DataW.weights_mem_each ht hd n hn)
  simpa using this
theorem TR.int {t : TypeId} {k : IntKind} {cs : List Value} {d : DataW H} (hu : P.underlying t = some (.int k)) (h : TR enc P W t cs d) : ∃ n, cs = [.int k n] ∧ (Lit.int k n).wf = true := by
  obtain ⟨fuel, ps, h⟩ := h
  cases fuel with
  | zero => simp [DataW.trod] at h
  | succ f =>
    unfold DataW.trod at h
    rw [hu] at h
    split at h <;> simp_all
theorem TR.bool {t : TypeId} {cs : List Value} {d : DataW H} (hu : P.underlying t = some .bool) (h : TR enc P W t cs d) : ∃ b, cs = [.bool b] := by
  obtain ⟨fuel, ps, h⟩ := h
  cases fuel with
  | zero => simp [DataW.trod] at h
  | succ f =>
    unfold DataW.trod at h
    rw [hu] at h
    split at h <;> simp_all
theorem TR.string {t : TypeId} {cs : List Value} {d : DataW H} (hu : P.underlying t = some .string) (h : TR enc P W t cs d) (hs : SZ P t d) : ∃ s, cs = [.string s] ∧ s.size ≤ reachBytes := by
  obtain ⟨fuel, ps, h⟩ := h
  cases fuel with
  | zero => simp [DataW.trod] at h
  | succ f =>
    unfold DataW.trod at h
    rw [hu] at h
    split at h <;> simp_all
    obtain ⟨_, h, _⟩ := h
    have h2 := hs
    rw [← h] at h2
    simpa [SZ, DataW.weights] using h2
theorem mem_weightsAll {e : TypeId} {n : Nat} : ∀ (l : List (DataW H)) (d : DataW H), d ∈ l → n ∈ DataW.weights P e d → n ∈ DataW.weightsAll P e l
  | [], _, h, _ => by cases h
  | x :: l, d, h, hn => by
    simp only [DataW.weightsAll, List.mem_append]
    rcases List.mem_cons.1 h with rfl | h
    · exact .inl hn
    · exact .inr (mem_weightsAll l d h hn)
/-- A slice: its elements' cells never change from here on; each reads. -/
theorem TR.slice {t e : TypeId} {cs : List Value} {d : DataW H} (hu : P.underlying t = some (.slice e)) (h0 : 0 < P.cellsOf e) (h : TR enc P W t cs d) (hs : SZ P t d) :
    ∃ v, ∃ xs : List (List Value × DataW H), cs = [v] ∧ Ro (knAll W) (fun x => x.1) (P.cellsOf e) v xs ∧ (∀ x ∈ xs, TR enc P W e x.1 x.2 ∧ SZ P e x.2) ∧ xs.length * P.bytesOf e ≤ reachBytes := by
  obtain ⟨fuel, ps, h⟩ := h
  rcases DataW.trod_slice hu h with ⟨rfl, _⟩ | ⟨a, len, cap, elems, rest, n, _, rfl, hx, _, hl, hm, hlen, hel, _, _⟩
  · exact ⟨_, [], rfl, .inl ⟨rfl, rfl⟩, (fun _ h => by cases h), by simp⟩
  · simp only [Prod.mk.injEq] at hx
    obtain ⟨rfl, _⟩ := hx
    have hws : ∀ y ∈ elems, SZ P e y.1 := fun y hy m hm' => hs m (by
      simp only [DataW.weights, hu, List.mem_cons, List.mem_append]
      exact .inr (.inl (mem_weightsAll _ y.1 (List.mem_map.2 ⟨y, hy, rfl⟩) hm')))
    have hln : (elems.length + rest.length) * P.bytesOf e ≤ reachBytes := by
      have := hs ((elems.length + rest.length) * P.bytesOf e) (by simp [DataW.weights, hu])
      exact this
    have each : ∀ i (hi : i < len), ∃ x : List Value × DataW H, W.cells? 0 (a.add (i * P.cellsOf e)) (P.cellsOf e) = some x.1 ∧ TR enc P W e x.1 x.2 ∧ SZ P e x.2 := fun i hi => by
      have h1 := hel i hi
      have hi' : i < elems.length := by omega
      rw [List.getElem?_eq_getElem hi'] at h1
      obtain ⟨ec, h2, h3⟩ := Option.bind_eq_some_iff.1 h1
      exact ⟨(ec, elems[i].1), h2, ⟨n, elems[i].2, h3⟩, hws _ (List.getElem_mem _)⟩
    have build : ∀ m, m ≤ len → ∃ xs : List (List Value × DataW H), xs.length = m ∧ ∀ i x, xs[i]? = some x → W.cells? 0 (a.add (i * P.cellsOf e)) (P.cellsOf e) = some x.1 ∧ TR enc P W e x.1 x.2 ∧ SZ P e x.2 := by
      intro m
      induction m with
      | zero => intro _; exact ⟨[], rfl, fun i x h => by simp at h⟩
      | succ m ih =>
        intro hm'
        obtain ⟨xs, h1, h2⟩ := ih (by omega)
        obtain ⟨x, hx⟩ := each m (by omega)
        refine ⟨xs ++ [x], by simp [h1], fun i y hy => ?_⟩
        by_cases hi : i < xs.length
        · rw [List.getElem?_append_left hi] at hy; exact h2 i y hy
        · rw [List.getElem?_append_right (by omega)] at hy
          have : i - xs.length = 0 := by
            have := (List.getElem?_eq_some_iff.1 hy).1; simp at this; omega
          rw [this] at hy
          simp at hy; subst hy
          have : i = m := by omega
          subst this; exact hx
    obtain ⟨xs, h1, h2⟩ := build len (Nat.le_refl _)
    refine ⟨_, xs, rfl, .inr ⟨a, cap, by rw [h1], by omega, fun i x hx => ?_⟩, fun x hx => ?_, ?_⟩
    · obtain ⟨h3, _, _⟩ := h2 i x hx
      obtain ⟨h4, h5, h6⟩ := World.cells?_some h3
      refine ⟨h5, fun j u hj => ?_⟩
      have hjn : j < P.cellsOf e := by rw [← h5]; exact (List.getElem?_eq_some_iff.1 hj).1
      have h7 := h6 j hjn
      rw [Addr.add_add] at h7
      rw [hj] at h7
      simp only [World.cell?] at h7
      split at h7
      · rename_i c tt fz hc
        split at h7
        · cases h7
        · rename_i hsp
          refine ⟨by cases hq : (a.add (i * P.cellsOf e + j)).spot with
            | none => rfl
            | some _ => rw [hq] at hsp; simp at hsp, c, tt, fz, hc, h7⟩
      · cases h7
    · obtain ⟨i, hi⟩ := List.mem_iff_getElem?.1 hx
      exact (h2 i x hi).2
    · have : xs.length * P.bytesOf e ≤ (elems.length + rest.length) * P.bytesOf e := Nat.mul_le_mul_right _ (by omega)
      omega
/-- Elements told by what they mean. -/
theorem typed {β : Type} {e2 : β → List Value} (Φ : β → DataW H → Prop) : ∀ (xs : List (List Value × DataW H)), (∀ x ∈ xs, ∃ y, x.1 = e2 y ∧ Φ y x.2) → ∃ ys : List β, xs.map (·.1) = ys.map e2 ∧ ∀ y ∈ ys, ∃ x ∈ xs, Φ y x.2
  | [], _ => ⟨[], rfl, fun _ h => by cases h⟩
  | x :: xs, h => by
    obtain ⟨y, h1, h2⟩ := h x (List.mem_cons_self ..)
    obtain ⟨ys, h3, h4⟩ := typed Φ xs (fun z hz => h z (List.mem_cons_of_mem _ hz))
    refine ⟨y :: ys, by simp [h1, h3], fun z hz => ?_⟩
    rcases List.mem_cons.1 hz with rfl | hz
    · exact ⟨x, List.mem_cons_self .., h2⟩
    · obtain ⟨x', h5, h6⟩ := h4 z hz; exact ⟨x', List.mem_cons_of_mem _ h5, h6⟩
theorem Ro.typed {R : Kn} {α β : Type} {e1 : α → List Value} {e2 : β → List Value} {n : Nat} {v : Value} {xs : List α} {ys : List β} (h : Ro R e1 n v xs) (hm : xs.map e1 = ys.map e2) : Ro R e2 n v ys := by
  have hlen : xs.length = ys.length := by have := congrArg List.length hm; simpa using this
  rcases h with ⟨h1, rfl⟩ | ⟨a, c, h1, h2, h3⟩
  · cases ys with
    | nil => exact .inl ⟨h1, rfl⟩
    | cons y ys => simp at hm
  · refine .inr ⟨a, c, by rw [← hlen]; exact h1, by omega, fun i y hy => ?_⟩
    have h4 : (xs.map e1)[i]? = some (e2 y) := by rw [hm, List.getElem?_map, hy]; rfl
    rw [List.getElem?_map] at h4
    cases hx : xs[i]? with
    | none => rw [hx] at h4; cases h4
    | some x => rw [hx] at h4; have h5 : e1 x = e2 y := by simpa using h4
                rw [← h5]; exact h3 i x hx
def wfI (k : IntKind) (x : Int) : Prop := (Lit.int k x).wf = true
theorem TR.ints {t e : TypeId} {k : IntKind} {cs : List Value} {d : DataW H} (hu : P.underlying t = some (.slice e)) (he : P.underlying e = some (.int k)) (hc : P.cellsOf e = 1) (h : TR enc P W t cs d) (hs : SZ P t d) :
    ∃ v, ∃ xs : List Int, cs = [v] ∧ Ro (knAll W) (encI k) 1 v xs ∧ (∀ x ∈ xs, wfI k x) ∧ xs.length * P.bytesOf e ≤ reachBytes := by
  obtain ⟨v, xs, h1, h2, h3, h4⟩ := h.slice hu (by rw [hc]; decide) hs
  rw [hc] at h2
  obtain ⟨ys, h5, h6⟩ := B.typed (e2 := encI k) (fun y _ => wfI k y) xs (fun x hx => (h3 x hx).1.int he)
  have hl : xs.length = ys.length := by have := congrArg List.length h5; simpa using this
  exact ⟨v, ys, h1, h2.typed h5, fun y hy => let ⟨_, _, q⟩ := h6 y hy; q, by rw [← hl]; exact h4⟩
theorem TR.intRows {t e q : TypeId} {k : IntKind} {cs : List Value} {d : DataW H} (hu : P.underlying t = some (.slice e)) (he : P.underlying e = some (.slice q)) (hq : P.underlying q = some (.int k)) (hce : P.cellsOf e = 1) (hcq : P.cellsOf q = 1) (h : TR enc P W t cs d) (hs : SZ P t d) :
    ∃ v ps, cs = [v] ∧ RoP (knAll W) k v ps ∧ (∀ p ∈ ps, (∀ x ∈ p.2, wfI k x) ∧ p.2.length * P.bytesOf q ≤ reachBytes) ∧ ps.length * P.bytesOf e ≤ reachBytes := by
  obtain ⟨v, xs, h1, h2, h3, h4⟩ := h.slice hu (by rw [hce]; decide) hs
  rw [hce] at h2
  obtain ⟨ys, h5, h6⟩ := B.typed (e2 := encP) (fun p _ => Ro (knAll W) (encI k) 1 p.1 p.2 ∧ (∀ x ∈ p.2, wfI k x) ∧ p.2.length * P.bytesOf q ≤ reachBytes) xs (fun x hx => by
    obtain ⟨v', zs, g1, g2, g3, g4⟩ := (h3 x hx).1.ints he hq hcq (h3 x hx).2
    exact ⟨(v', zs), g1, g2, g3, g4⟩)
  have hl : xs.length = ys.length := by have := congrArg List.length h5; simpa using this
  exact ⟨v, ys, h1, ⟨h2.typed h5, fun y hy => let ⟨_, _, q, _⟩ := h6 y hy; q⟩, fun y hy => let ⟨_, _, _, q⟩ := h6 y hy; q, by rw [← hl]; exact h4⟩
end
theorem cells_one {v u : Value} (h : v.cells.toList = [u]) (hn : ∀ cs, v ≠ .agg cs) : v = u := by
  cases v <;> simp_all [Value.cells]
end Go.Proofs.Ytiffedgmageiaaa.B

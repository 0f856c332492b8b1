/- More of rows: slices of them, their change from one's own to known, temporary ones. -/
import Derived.Test.YtiffedgmageiaaaOpsQ
namespace Go.Proofs.Ytiffedgmageiaaa.B
set_option linter.unusedVariables false
set_option linter.unusedSimpArgs false
open Go.RowKit

theorem encI_len {k : IntKind} {xs : List Int} : ∀ x ∈ xs, (encI k x).length = 1 := fun _ _ => rfl
theorem encI_one {k : IntKind} {xs : List Int} : ∀ x ∈ xs, ∀ u ∈ encI k x, u.oneCell' = true := by
  intro x _ u hu; simp only [encI, List.mem_singleton] at hu; subst hu; rfl
theorem flat_one {α : Type} {enc : α → List Value} {xs : List α} (h : ∀ x ∈ xs, ∀ u ∈ enc x, u.oneCell' = true) : ∀ u ∈ xs.flatMap enc, u.oneCell' = true := by
  intro u hu
  obtain ⟨x, hx, hxu⟩ := List.mem_flatMap.1 hu
  exact h x hx u hxu

section
variable {P : Program} {w : World} {R R' : Kn} {L : List HP}
/-- What is known may be forgotten. -/
theorem St.weak (s : St w R' L) (h : R.le R') : St w R L :=
  let ⟨hh, a, b, c⟩ := s.own
  ⟨h.mem.trans s.know, s.os.trans h.os, s.tape.trans h.tape, s.output.trans h.output, hh, a, b.mono h.mem (Hp.le.refl _), c⟩
/-- A temporary row: it never changes any more. -/
theorem St.keepRow {α : Type} {enc : α → List Value} {n b : Nat} {c : Array Value} {e : TypeId} {fz : Nat × Nat} (xs : List α) (s : St w R (blk b (.cells c e fz) :: L)) (hc : c.toList = xs.flatMap enc) (he : ∀ x ∈ xs, (enc x).length = n) :
    ∃ R', R.le R' ∧ Ro R' enc n (.slice (some ⟨b, 0, none⟩) xs.length xs.length) xs ∧ St w R' L := by
  obtain ⟨R', h, hle, hb, hm, s'⟩ := s.keep
  refine ⟨R', hle, .inr ⟨⟨b, 0, none⟩, xs.length, rfl, Nat.le_refl _, fun i x hx => ⟨he x (List.mem_of_getElem? hx), fun j u hu => ?_⟩⟩, s'⟩
  have := flat_at xs he i x hx j u hu
  rw [← hc] at this
  rw [Addr.add_none]
  exact ⟨rfl, c, e, fz, hm _ _ hb, by rw [Nat.zero_add, ← Array.getElem?_toList]; exact this⟩
/-- A row of nothing. -/
theorem St.nilRow {α : Type} {enc : α → List Value} {e : TypeId} {n : Nat} (s : St w R L) : St w R (Ow e enc n (.slice none 0 0) ([] : List α) :: L) :=
  s.emp.head fun _ _ => ⟨by simp, .inl ⟨rfl, rfl⟩⟩
/-- A temporary row as a row that may grow. -/
theorem St.ownRow {α : Type} {enc : α → List Value} {n b : Nat} {c : Array Value} {e : TypeId} (xs : List α) (s : St w R (blk b (.cells c e (0, 0)) :: L)) (hc : c.toList = xs.flatMap enc) (he : ∀ x ∈ xs, (enc x).length = n) (hm : xs.length ≤ maxLen) :
    St w R (Ow e enc n (.slice (some ⟨b, 0, none⟩) xs.length xs.length) xs :: L) :=
  s.head fun h hb => by
    have hl := flat_len xs he
    refine ⟨hl, .inr ⟨b, xs.length, c, rfl, hb, Nat.le_refl _, hm, ?_, ?_⟩⟩
    · rw [← hl, ← hc]; rfl
    · rw [hc, ← hl, List.take_length]
/-- A row of one's own, opened: its block. -/
theorem St.openRow {α : Type} {enc : α → List Value} {n : Nat} {e : TypeId} {v : Value} {xs : List α} (s : St w R (Ow e enc n v xs :: L)) (h0 : xs ≠ []) :
    ∃ b cap cur, v = .slice (some ⟨b, 0, none⟩) xs.length cap ∧ xs.length ≤ cap ∧ cap ≤ maxLen ∧ cur.size = cap * n ∧ cur.toList.take (xs.length * n) = xs.flatMap enc ∧ (xs.flatMap enc).length = xs.length * n ∧ St w R (blk b (.cells cur e (0, 0)) :: L) := by
  obtain ⟨h, a, b, h1, h2, d, c, e', ⟨hl, hv⟩, k⟩ := s.own
  rcases hv with ⟨_, hv⟩ | ⟨g, cap, cur, hv, hg, h3, h4, h5, h6⟩
  · exact absurd (List.eq_nil_of_length_eq_zero hv) h0
  · exact ⟨g, cap, cur, hv, h3, h4, h5, h6, hl, s.know, s.os, s.tape, s.output, h, a, b, h1, h2, d, c, e', hg, k⟩
/-- .., shut again. -/
theorem St.shutRow {α : Type} {enc : α → List Value} {n b cap : Nat} {e : TypeId} {cur : Array Value} {xs : List α} (s : St w R (blk b (.cells cur e (0, 0)) :: L)) (h1 : xs.length ≤ cap) (h2 : cap ≤ maxLen) (h3 : cur.size = cap * n)
    (h4 : cur.toList.take (xs.length * n) = xs.flatMap enc) (h5 : (xs.flatMap enc).length = xs.length * n) : St w R (Ow e enc n (.slice (some ⟨b, 0, none⟩) xs.length cap) xs :: L) :=
  s.head fun h hb => ⟨h5, .inr ⟨b, cap, cur, rfl, hb, h1, h2, h3, h4⟩⟩
theorem St.rowLen {α : Type} {enc : α → List Value} {n : Nat} {e : TypeId} {v : Value} {xs : List α} (s : St w R (Ow e enc n v xs :: L)) : ∃ a c, v = .slice a xs.length c := by
  obtain ⟨h, ⟨hl, hv⟩, _⟩ := s.see
  rcases hv with ⟨hv, h0⟩ | ⟨g, cap, cur, hv, _⟩
  · exact ⟨none, 0, by rw [hv, h0]⟩
  · exact ⟨_, _, hv⟩
theorem Ro.cast {α β : Type} {e1 : α → List Value} {e2 : β → List Value} {n : Nat} {v : Value} {xs : List α} (f : α → β) (hf : ∀ x, e2 (f x) = e1 x) (h : Ro R e1 n v xs) : Ro R e2 n v (xs.map f) := by
  rcases h with ⟨h1, h2⟩ | ⟨a, c, h1, h2, h3⟩
  · exact .inl ⟨h1, by rw [h2]; rfl⟩
  · refine .inr ⟨a, c, by rw [List.length_map]; exact h1, by rw [List.length_map]; exact h2, fun i y hy => ?_⟩
    rw [List.getElem?_map] at hy
    cases hx : xs[i]? with
    | none => rw [hx] at hy; cases hy
    | some x => rw [hx] at hy; cases hy; rw [hf]; exact h3 i x hx

theorem Ro.part {α : Type} {enc : α → List Value} {n : Nat} {a : Option Addr} {len cap l h : Nat} {xs : List α} (hr : Ro R enc n (.slice a len cap) xs) (h1 : l ≤ h) (h2 : h ≤ len) :
    Ro R enc n (.slice (if cap = l then a else a.map (·.add (l * n))) (h - l) (cap - l)) ((xs.take h).drop l) := by
  rcases hr with ⟨h3, rfl⟩ | ⟨ad, c, h3, h4, h5⟩
  · cases h3
    have : l = 0 := by omega
    have : h = 0 := by omega
    subst_vars
    exact .inl ⟨by simp, by simp⟩
  · cases h3
    have hlen : ((xs.take h).drop l).length = h - l := by simp; omega
    by_cases hc : cap = l
    · -- nothing is left
      have : h = l := by omega
      subst this
      rw [if_pos hc]
      have hx : (xs.take h).drop h = [] := List.eq_nil_of_length_eq_zero (by rw [hlen]; omega)
      refine .inr ⟨ad, cap - h, by rw [hlen], by rw [hlen]; omega, fun i x hx' => ?_⟩
      rw [hx] at hx'; cases hx'
    · rw [if_neg hc]
      refine .inr ⟨ad.add (l * n), cap - l, by rw [hlen]; rfl, by rw [hlen]; omega, fun i x hx => ?_⟩
      rw [List.getElem?_drop, List.getElem?_take] at hx
      split at hx
      · have := h5 _ x hx
        refine ⟨this.1, fun j u hu => ?_⟩
        have h6 := this.2 j u hu
        rw [Addr.add_add, ← Nat.add_assoc, ← Nat.add_mul]
        exact h6
      · cases hx
end

section
variable {P : Program} {ops : Array Oper} {Q : Exit → Regs → World → Prop} {r : Regs} {w : World} {os : List Oper}
  {d : Nat} {ty : TypeId} {pos : String} {aft : Array Edge} {g : Option (Nat × Bool)} {R : Kn} {L : List HP}
/-- A part of a row that never changes. -/
theorem run_sliceRo {t e : TypeId} {z : Value} {n b len cap : Nat} {a : Option Addr} {lo hi : Option Value} {l h : Int} (ht : P.underlying t = some (.slice e)) (hI : TI P e z n b)
    (hlo : lo = none ∧ l = 0 ∨ ∃ k, lo = some (.int k l)) (hhi : hi = none ∧ h = len ∨ ∃ k, hi = some (.int k h)) (h0 : 0 ≤ l) (h1 : l ≤ h) (h2 : h ≤ cap) :
    (Instr.sliceAt t (.slice a len cap) lo hi none).run P w = .ok (.slice (if cap = l.toNat then a else a.map (·.add (l.toNat * n))) (h.toNat - l.toNat) (cap - l.toNat)) w := by
  have hb : (Instr.sliceBounds true len cap lo hi none).run P w = .ok (l.toNat, h.toNat, cap) w := by
    rcases hhi with ⟨rfl, rfl⟩ | ⟨k, rfl⟩ <;> rcases hlo with ⟨rfl, rfl⟩ | ⟨k', rfl⟩
    · simp [Instr.sliceBounds, Sem.run_bind]
    · have : l ≤ ((len : Nat) : Int) := by omega
      simp [Instr.sliceBounds, Instr.sliceBound, asIntOf, Sem.run_bind, h0, this]
    · have hh : 0 ≤ h := by omega
      simp [Instr.sliceBounds, Instr.sliceBound, asIntOf, Sem.run_bind, hh, h2]
    · have hh : 0 ≤ h := by omega
      have : l ≤ ((h.toNat : Nat) : Int) := by omega
      simp [Instr.sliceBounds, Instr.sliceBound, asIntOf, Sem.run_bind, hh, h2, h0, this]
      intro hc; omega
  simp only [Instr.sliceAt, Sem.run_bind, run_underlying ht, Result.andThen_ok, Instr.slice, hb, run_size hI, Sem.run_pure]
theorem S.sliceRo {α : Type} {enc : α → List Value} {t e : TypeId} {z : Value} {n b : Nat} {x : Operand} {lo hi : Option Operand} {l h : Int} {v : Value} {xs : List α} (hro : Ro R enc n v xs) (ht : P.underlying t = some (.slice e)) (hI : TI P e z n b)
    (hx : ev r x = v) (hlo : lo.map (ev r) = none ∧ l = 0 ∨ ∃ k, lo.map (ev r) = some (.int k l)) (hhi : hi.map (ev r) = none ∧ h = (xs.length : Int) ∨ ∃ k, hi.map (ev r) = some (.int k h)) (hb : 0 ≤ l ∧ l ≤ h ∧ h ≤ xs.length)
    (hw : wantR ⟨some d, .slice t x lo hi none, ty, pos, aft, g⟩ ops r = true)
    (h : ∀ a c, Ro R enc n (.slice a (h.toNat - l.toNat) c) ((xs.take h.toNat).drop l.toNat) → WS P ops Q os (upd r d (.slice a (h.toNat - l.toNat) c)) w) : WS P ops Q (⟨some d, .slice t x lo hi none, ty, pos, aft, g⟩ :: os) r w := by
  subst hx
  obtain ⟨a, c, hv, hc⟩ := hro.len
  rw [hv] at hro
  have hrun := run_sliceRo (P := P) (w := w) (a := a) (len := xs.length) (cap := c) ht hI hlo hhi hb.1 hb.2.1 (by omega)
  have hpart := hro.part (l := l.toNat) (h := ‹Int›.toNat) (by omega) (by omega)
  refine S.val hw ?_ (h _ _ hpart)
  simp only [execOp, hv, Option.map_none, hrun, Sem.run_bind, Result.andThen_ok, Sem.run_pure]

/-- 'append' to a row of one's own, element by element told. -/
theorem S.appendOw {α : Type} {enc : α → List Value} {t u e : TypeId} {ud : TypeDesc} {z : Value} {n b i : Nat} {x y : Operand} {v v2 : Value} {xs ys : List α} (s : St w R L) (hi : L[i]? = some (Ow e enc n v xs))
    (ht : P.underlying t = some (.slice e)) (hu : P.underlying u = some ud) (hud : intB ud = false) (hI : TI P e z n b) (hzs : z.cells.size = n) (hn : Nat.blt 0 n = true)
    (hx : ev r x = v) (hy : ev r y = v2) (hs : Src P n w v2 ys.length (ys.flatMap enc)) (h1 : ∀ x ∈ ys, ∀ u ∈ enc x, u.oneCell' = true) (hb : (xs.length + ys.length) * b ≤ 140737488355328 ∧ xs.length + ys.length ≤ 140737488355328)
    (hw : wantR ⟨some d, .call { callee := .builtin .append, args := #[x, y], argTypes := #[t, u] }, ty, pos, aft, g⟩ ops r = true)
    (h : ∀ v' w', St w' R (L.set i (Ow e enc n v' (xs ++ ys))) → WS P ops Q os (upd r d v') w') :
    WS P ops Q (⟨some d, .call { callee := .builtin .append, args := #[x, y], argTypes := #[t, u] }, ty, pos, aft, g⟩ :: os) r w := by
  refine S.append s hi ht hu hud hI hzs hn hx hy hs (flat_one h1) hb hw fun v' w' s' => h v' w' ?_
  unfold Ow
  rw [List.length_append, List.flatMap_append]
  exact s'
/-- .. out of a row that never changes. -/
theorem S.appendRo {α : Type} {enc : α → List Value} {t e : TypeId} {z : Value} {n b i : Nat} {x y : Operand} {v v2 : Value} {xs ys : List α} (s : St w R L) (hi : L[i]? = some (Ow e enc n v xs)) (hro : Ro R enc n v2 ys)
    (ht : P.underlying t = some (.slice e)) (hI : TI P e z n b) (hzs : z.cells.size = n) (hn : Nat.blt 0 n = true)
    (hx : ev r x = v) (hy : ev r y = v2) (h1 : ∀ x ∈ ys, ∀ u ∈ enc x, u.oneCell' = true) (hb : (xs.length + ys.length) * b ≤ 140737488355328 ∧ xs.length + ys.length ≤ 140737488355328)
    (hw : wantR ⟨some d, .call { callee := .builtin .append, args := #[x, y], argTypes := #[t, t] }, ty, pos, aft, g⟩ ops r = true)
    (h : ∀ v' w', St w' R (L.set i (Ow e enc n v' (xs ++ ys))) → WS P ops Q os (upd r d v') w') :
    WS P ops Q (⟨some d, .call { callee := .builtin .append, args := #[x, y], argTypes := #[t, t] }, ty, pos, aft, g⟩ :: os) r w :=
  S.appendOw s hi ht ht rfl hI hzs hn hx hy (Src.ro (by simpa using hn) s hro) h1 hb hw h
/-- .. out of a temporary row, which is forgotten. -/
theorem S.appendTmp {α : Type} {enc : α → List Value} {t e : TypeId} {z : Value} {n b i bk m : Nat} {x y : Operand} {v : Value} {xs : List α} {cs : Array Value} {fz : Nat × Nat} (ys : List α) (s : St w R (blk bk (.cells cs e fz) :: L)) (hi : L[i]? = some (Ow e enc n v xs))
    (hcs : cs.toList = ys.flatMap enc) (he : ∀ x ∈ ys, (enc x).length = n)
    (ht : P.underlying t = some (.slice e)) (hI : TI P e z n b) (hzs : z.cells.size = n) (hn : Nat.blt 0 n = true)
    (hx : ev r x = v) (hy : ev r y = .slice (some ⟨bk, 0, none⟩) ys.length m) (h1 : ∀ x ∈ ys, ∀ u ∈ enc x, u.oneCell' = true) (hb : (xs.length + ys.length) * b ≤ 140737488355328 ∧ xs.length + ys.length ≤ 140737488355328)
    (hw : wantR ⟨some d, .call { callee := .builtin .append, args := #[x, y], argTypes := #[t, t] }, ty, pos, aft, g⟩ ops r = true)
    (h : ∀ v' w', St w' R (L.set i (Ow e enc n v' (xs ++ ys))) → WS P ops Q os (upd r d v') w') :
    WS P ops Q (⟨some d, .call { callee := .builtin .append, args := #[x, y], argTypes := #[t, t] }, ty, pos, aft, g⟩ :: os) r w := by
  refine S.appendOw (i := i + 1) s (by simpa using hi) ht ht rfl hI hzs hn hx hy (Src.blk (i := 0) s rfl (flat_len ys he) ?_) h1 hb hw fun v' w' s' => h v' w' s'.drop
  rw [List.drop_zero, hcs, ← flat_len ys he, List.take_length]
/-- '[]byte' of bytes: it is marked as a string's, behind its end. -/
theorem S.convSS {t e : TypeId} {x : Operand} {i bk len cap : Nat} {cs : Array Value} {e' : TypeId} (s : St w R L) (hi : L[i]? = some (blk bk (.cells cs e' (0, 0)))) (ht : P.underlying t = some (.slice e)) (he : P.underlying e = some (.int .u8))
    (hx : ev r x = .slice (some ⟨bk, 0, none⟩) len cap) (hw : wantR ⟨some d, .convert t t x, ty, pos, aft, g⟩ ops r = true)
    (h : ∀ w', St w' R (L.set i (blk bk (.cells cs e' (cs.size, cs.size + 1)))) → WS P ops Q os (upd r d (.slice (some ⟨bk, 0, none⟩) len cap)) w') : WS P ops Q (⟨some d, .convert t t x, ty, pos, aft, g⟩ :: os) r w := by
  have hb := (s.at_ hi).blkAt
  have hlt := hp_lt hb
  have hfr : w.freeze ⟨bk, cs.size, none⟩ 1 = { w with heap := w.heap.setIfInBounds bk (.cells cs e' (cs.size, cs.size + 1)) } := by
    simp only [World.freeze]
    rw [if_neg (by decide)]
    congr 1
    apply Array.ext_getElem?
    intro k
    rw [Array.getElem?_modify]
    by_cases hk : bk = k
    · subst hk; rw [if_pos rfl, hb, Array.getElem?_setIfInBounds_self]; simp [hlt]
    · rw [if_neg hk, Array.getElem?_setIfInBounds_ne hk]
  refine WS.op hw ?_
  have hsh : w.shape? bk = some (e', cs.size) := by simp [World.shape?, hb]
  have hr : (execOp (ev r) ⟨some d, .convert t t x, ty, pos, aft, g⟩).run P w = .ok (.value (.slice (some ⟨bk, 0, none⟩) len cap)) { w with heap := w.heap.setIfInBounds bk (.cells cs e' (cs.size, cs.size + 1)) } := by
    rw [← hfr]
    simp only [execOp, hx, convert, Sem.run_bind, run_underlying ht, Result.andThen_ok, run_underlying he, beq_self_eq_true, markStringish]
    simp [shape, Sem.run, hsh, freeze]
  unfold ROp; rw [hr]
  exact h _ (((s.at_ hi).set).put_ (List.getElem?_eq_some_iff.1 hi).1)
end
end Go.Proofs.Ytiffedgmageiaaa.B
namespace Go.Proofs.Ytiffedgmageiaaa.B
set_option linter.unusedVariables false
/-- A row of rows of numbers. -/
def encP (p : Value × List Int) : List Value := [p.1]
structure RoP (R : Kn) (k : IntKind) (v : Value) (ps : List (Value × List Int)) : Prop where
  row : Ro R encP 1 v ps
  each : ∀ p ∈ ps, Ro R (encI k) 1 p.1 p.2
theorem RoP.mono {R S : Kn} {k : IntKind} {v : Value} {ps : List (Value × List Int)} (h : RoP R k v ps) (hs : R.le S) : RoP S k v ps := ⟨h.row.mono hs, fun p hp => (h.each p hp).mono hs⟩
theorem RoP.nil {R : Kn} {k : IntKind} : RoP R k (.slice none 0 0) [] := ⟨Ro.nil, fun _ h => by cases h⟩
theorem RoP.len {R : Kn} {k : IntKind} {v : Value} {ps : List (Value × List Int)} (h : RoP R k v ps) : ∃ a c, v = .slice a ps.length c ∧ ps.length ≤ c := h.row.len
/-- A temporary row of rows. -/
theorem St.keepP {w : World} {R : Kn} {L : List HP} {k : IntKind} {b : Nat} {c : Array Value} {e : TypeId} {fz : Nat × Nat} (ps : List (Value × List Int)) (s : St w R (blk b (.cells c e fz) :: L)) (hc : c.toList = ps.map (·.1)) (he : ∀ p ∈ ps, Ro R (encI k) 1 p.1 p.2) :
    ∃ R', R.le R' ∧ RoP R' k (.slice (some ⟨b, 0, none⟩) ps.length ps.length) ps ∧ St w R' L := by
  obtain ⟨R', h1, h2, h3⟩ := s.keepRow (enc := encP) (n := 1) ps (by rw [hc]; clear hc he; induction ps with
    | nil => rfl
    | cons p ps ih => rw [List.map_cons, List.flatMap_cons, ih]; rfl) (fun _ _ => rfl)
  exact ⟨R', h1, ⟨h2, fun p hp => (he p hp).mono h1⟩, h3⟩
end Go.Proofs.Ytiffedgmageiaaa.B
namespace Go.Proofs.Ytiffedgmageiaaa.B
set_option linter.unusedVariables false
set_option linter.unusedSimpArgs false
/-! ### rows made of parts in order -/
def en : Nat → List Value → List (Nat × Value)
  | _, [] => []
  | k, v :: vs => (k, v) :: en (k + 1) vs
theorem en_of : ∀ (pl : List (Nat × Value)) (k : Nat), pl.map (·.1) = List.range' k pl.length → pl = en k (pl.map (·.2))
  | [], _, _ => rfl
  | (i, v) :: pl, k, h => by
    rw [List.length_cons, List.range'_succ, List.map_cons] at h
    injection h with h1 h2
    simp only at h1
    subst h1
    simp only [List.map_cons, en]
    rw [← en_of pl (i + 1) h2]
theorem fold_set (off : Nat) : ∀ (vs : List Value) (k : Nat) (cs : Array Value), off + k + vs.length ≤ cs.size →
    ((vs.zipIdx k).foldl (fun cs (p : Value × Nat) => cs.setIfInBounds (off + p.2) p.1) cs).toList = cs.toList.take (off + k) ++ vs ++ cs.toList.drop (off + k + vs.length)
  | [], k, cs, _ => by simp
  | v :: vs, k, cs, h => by
    rw [List.zipIdx_cons, List.foldl_cons, fold_set off vs (k + 1) _ (by simp at h ⊢; omega)]
    simp only [Array.toList_setIfInBounds]
    have hlt : off + k < cs.toList.length := by simp at h ⊢; omega
    rw [List.set_eq_take_append_cons_drop, if_pos hlt]
    have hl : (List.take (off + k) cs.toList).length = off + k := by rw [List.length_take]; omega
    rw [show off + (k + 1) = (List.take (off + k) cs.toList).length + 1 by omega, List.take_append, List.length_cons]
    rw [List.take_of_length_le (by omega)]
    simp only [Nat.add_sub_cancel_left, List.take_succ_cons, List.take_zero, List.append_assoc, List.cons_append, List.nil_append]
    congr 3
    rw [show (List.take (off + k) cs.toList).length + 1 + vs.length = (List.take (off + k) cs.toList).length + (vs.length + 1) by omega, List.drop_append]
    rw [List.drop_eq_nil_of_le (by omega), List.nil_append, Nat.add_sub_cancel_left, List.drop_succ_cons, List.drop_drop]
    congr 1
    omega
theorem fill_en (n : Nat) : ∀ (vs : List Value) (k : Nat) (cs : Array Value), (k + vs.length) * n ≤ cs.size → (∀ v ∈ vs, v.cells.size = n) →
    ∃ out, Instr.fill (fun i => some (i * n, n)) cs (en k vs) = some out ∧ out.toList = cs.toList.take (k * n) ++ vs.flatMap (fun v => v.cells.toList) ++ cs.toList.drop ((k + vs.length) * n)
  | [], k, cs, _, _ => ⟨cs, rfl, by simp⟩
  | v :: vs, k, cs, h, hv => by
    have hvn := hv v (List.mem_cons_self ..)
    have hk : k * n + n ≤ cs.size := by
      rw [List.length_cons] at h
      have : (k + 1) * n ≤ (k + (vs.length + 1)) * n := Nat.mul_le_mul_right _ (by omega)
      rw [Nat.succ_mul] at this; omega
    have hf := fold_set (k * n) v.cells.toList 0 cs (by simp only [Nat.add_zero, Array.length_toList]; omega)
    simp only [Nat.add_zero, Array.length_toList, hvn] at hf
    have hz : v.cells.zipIdx.foldl (fun cs (p : Value × Nat) => cs.setIfInBounds (k * n + p.2) p.1) cs = (v.cells.toList.zipIdx.foldl (fun cs (p : Value × Nat) => cs.setIfInBounds (k * n + p.2) p.1) cs) := by
      rw [← Array.foldl_toList, Array.toList_zipIdx]
    have hsz : ((v.cells.toList.zipIdx.foldl (fun cs (p : Value × Nat) => cs.setIfInBounds (k * n + p.2) p.1) cs)).size = cs.size := by
      rw [← Array.length_toList, hf]
      simp only [List.length_append, List.length_take, List.length_drop, Array.length_toList, hvn]
      omega
    obtain ⟨out, h1, h2⟩ := fill_en n vs (k + 1) (v.cells.toList.zipIdx.foldl (fun cs (p : Value × Nat) => cs.setIfInBounds (k * n + p.2) p.1) cs) (by rw [hsz, List.length_cons] at *; rw [show k + 1 + vs.length = k + (vs.length + 1) by omega]; exact h) (fun u hu => hv u (List.mem_cons_of_mem _ hu))
    refine ⟨out, ?_, ?_⟩
    · simp only [en, Instr.fill]
      rw [if_neg (by simp only [hvn, bne_self_eq_false, Bool.false_or, decide_eq_true_eq, ne_eq, not_true_eq_false, decide_false]; omega)]
      have : (Array.foldl (fun cs x => match x with | (c, j) => cs.setIfInBounds (k * n + j) c) cs v.cells.zipIdx) = v.cells.toList.zipIdx.foldl (fun cs (p : Value × Nat) => cs.setIfInBounds (k * n + p.2) p.1) cs := hz
      rw [this]
      exact h1
    · rw [h2, hf, List.flatMap_cons, List.length_cons]
      have hl1 : (List.take (k * n) cs.toList ++ v.cells.toList).length = (k + 1) * n := by
        rw [List.length_append, List.length_take, Array.length_toList, Array.length_toList, hvn, Nat.min_eq_left (by omega), Nat.succ_mul]
      rw [List.take_append, hl1, Nat.sub_self, List.take_zero, List.append_nil, List.take_of_length_le (by omega)]
      rw [show (k + 1 + vs.length) * n = (k + 1) * n + vs.length * n by rw [Nat.add_mul (k + 1)], List.drop_append, hl1, Nat.add_sub_cancel_left, List.drop_eq_nil_of_le (by omega), List.nil_append, List.drop_drop]
      simp only [List.append_assoc]
      congr 4
      rw [show k + (vs.length + 1) = (k + 1) + vs.length by omega, Nat.add_mul (k + 1), Nat.succ_mul]
section
variable {P : Program} {ops : Array Oper} {Q : Exit → Regs → World → Prop} {r : Regs} {w : World} {os : List Oper}
  {d : Nat} {ty : TypeId} {pos : String} {aft : Array Edge} {g : Option (Nat × Bool)} {R : Kn} {L : List HP}
/-- A row made of parts, all of them, in order. -/
theorem S.buildRow {t e : TypeId} {z : Value} {n b len : Nat} {parts : Array (Nat × Operand)} {vs : List Value} {cs : List Value} (s : St w R L) (ht : P.underlying t = some (.slice e)) (hI : TI P e z n b) (hz : Nat.beq z.cells.size n = true)
    (hsm : Nat.ble (len * n) 16777216 = true) (hpi : parts.toList.map (·.1) = List.range' 0 len) (hpl : (parts.toList.map fun q => ev r q.2) = vs) (hc : vs.flatMap (fun v => v.cells.toList) = cs) (hsz : (vs.all fun v => Nat.beq v.cells.size n) = true)
    (hw : wantR ⟨some d, .buildSlice t len parts, ty, pos, aft, g⟩ ops r = true)
    (h : ∀ b w', St w' R (blk b (.cells cs.toArray e (0, 0)) :: L) → WS P ops Q os (upd r d (.slice (some ⟨b, 0, none⟩) len len)) w') :
    WS P ops Q (⟨some d, .buildSlice t len parts, ty, pos, aft, g⟩ :: os) r w := by
  subst hpl
  have hplen : parts.toList.length = len := by
    have := congrArg List.length hpi; simpa using this
  have hzn : z.cells.size = n := Nat.eq_of_beq_eq_true hz
  have hsz' : ∀ v ∈ (parts.toList.map fun q => ev r q.2), v.cells.size = n := fun v hv => Nat.eq_of_beq_eq_true (List.all_eq_true.1 hsz v hv)
  have hen : (parts.toList.map fun q => (q.1, ev r q.2)) = en 0 (parts.toList.map fun q => ev r q.2) := by
    have := en_of (parts.toList.map fun q => (q.1, ev r q.2)) 0 (by
      rw [List.map_map, List.length_map, hplen]; exact hpi)
    rw [List.map_map] at this
    exact this
  obtain ⟨out, h1, h2⟩ := fill_en n (parts.toList.map fun q => ev r q.2) 0 ((Array.range (len * n)).map ((if len * n = 0 then #[] else z.cells)[· % (if len * n = 0 then #[] else z.cells).size]!)) (by simp [hplen]) hsz'
  have hout : out = cs.toArray := by
    apply Array.ext'
    rw [h2, hc, Nat.zero_mul, List.take_zero, List.nil_append, List.length_map, hplen, Nat.zero_add, List.drop_eq_nil_of_le (by simp), List.append_nil]
  subst hout
  exact S.buildSlice s ht hI hsm rfl rfl (by rw [hen]; exact h1) hw h
end
end Go.Proofs.Ytiffedgmageiaaa.B
namespace Go.Proofs.Ytiffedgmageiaaa.B
set_option linter.unusedVariables false
section
variable {P : Program} {ops : Array Oper} {Q : Exit → Regs → World → Prop} {r : Regs} {w : World} {os : List Oper}
  {d : Nat} {ty : TypeId} {pos : String} {aft : Array Edge} {g : Option (Nat × Bool)} {R : Kn} {L : List HP}
/-- 'x[:h]'. -/
theorem S.sliceHi {α : Type} {enc : α → List Value} {t e : TypeId} {z : Value} {n b : Nat} {x y : Operand} {k : IntKind} {i : Int} {v : Value} {xs : List α} (h : Nat) (hro : Ro R enc n v xs) (ht : P.underlying t = some (.slice e)) (hI : TI P e z n b)
    (hx : ev r x = v) (hy : ev r y = .int k i) (hi : i = (h : Int)) (hb : h ≤ xs.length)
    (hw : wantR ⟨some d, .slice t x none (some y) none, ty, pos, aft, g⟩ ops r = true)
    (hK : ∀ a c, Ro R enc n (.slice a h c) (xs.take h) → WS P ops Q os (upd r d (.slice a h c)) w) : WS P ops Q (⟨some d, .slice t x none (some y) none, ty, pos, aft, g⟩ :: os) r w := by
  subst hi
  refine S.sliceRo (l := 0) (h := (h : Int)) hro ht hI hx (.inl ⟨rfl, rfl⟩) (.inr ⟨k, by rw [Option.map_some, hy]⟩) ⟨by omega, by omega, by omega⟩ hw fun a c hr => ?_
  simp only [Int.toNat_natCast, Int.toNat_zero, Nat.sub_zero, List.drop_zero] at hr ⊢
  exact hK a c hr
/-- 'x[l:]'. -/
theorem S.sliceLo {α : Type} {enc : α → List Value} {t e : TypeId} {z : Value} {n b : Nat} {x y : Operand} {k : IntKind} {i : Int} {v : Value} {xs : List α} (l : Nat) (hro : Ro R enc n v xs) (ht : P.underlying t = some (.slice e)) (hI : TI P e z n b)
    (hx : ev r x = v) (hy : ev r y = .int k i) (hi : i = (l : Int)) (hb : l ≤ xs.length)
    (hw : wantR ⟨some d, .slice t x (some y) none none, ty, pos, aft, g⟩ ops r = true)
    (hK : ∀ a c, Ro R enc n (.slice a (xs.length - l) c) (xs.drop l) → WS P ops Q os (upd r d (.slice a (xs.length - l) c)) w) : WS P ops Q (⟨some d, .slice t x (some y) none none, ty, pos, aft, g⟩ :: os) r w := by
  subst hi
  refine S.sliceRo (l := (l : Int)) (h := (xs.length : Int)) hro ht hI hx (.inr ⟨k, by rw [Option.map_some, hy]⟩) (.inl ⟨rfl, rfl⟩) ⟨by omega, by omega, by omega⟩ hw fun a c hr => ?_
  simp only [Int.toNat_natCast, List.take_length] at hr ⊢
  exact hK a c hr
end
end Go.Proofs.Ytiffedgmageiaaa.B
namespace Go.Proofs.Ytiffedgmageiaaa.B
set_option linter.unusedVariables false
set_option linter.unusedSimpArgs false
open Go.RowKit
/-- Where an element of a row lies, each of one cell. -/
def elAddr (v : Value) (k : Nat) : Addr := match v with | .slice (some a) _ _ => a.add k | _ => ⟨0, 0, none⟩
section
variable {P : Program} {ops : Array Oper} {Q : Exit → Regs → World → Prop} {r : Regs} {w : World} {os : List Oper}
  {d : Nat} {ty : TypeId} {pos : String} {aft : Array Edge} {g : Option (Nat × Bool)} {R : Kn} {L : List HP}
theorem flat1_get {α : Type} {enc : α → List Value} (xs : List α) (he : ∀ x ∈ xs, (enc x).length = 1) (k : Nat) (x : α) (c : Value) (hx : xs[k]? = some x) (hc : enc x = [c]) : (xs.flatMap enc)[k]? = some c := by
  have := flat_at xs he k x hx 0 c (by rw [hc]; rfl)
  simpa using this
theorem ow_cell {α : Type} {enc : α → List Value} {e : TypeId} {v : Value} {xs : List α} {i k : Nat} {x : α} {c : Value} (s : St w R L) (hi : L[i]? = some (Ow e enc 1 v xs)) (he : ∀ x ∈ xs, (enc x).length = 1) (hx : xs[k]? = some x) (hc : enc x = [c]) :
    w.cell? (elAddr v k) = some c := by
  have h0 : xs ≠ [] := by intro e; rw [e] at hx; simp at hx
  obtain ⟨b, cap, cur, rfl, h1, h2, h3, h4, h5, s'⟩ := (s.at_ hi).openRow h0
  simp only [elAddr, Addr.add_none, Nat.zero_add]
  refine cell_of_heap s'.blkAt ?_
  have := flat1_get xs he k x c hx hc
  rw [← h4, List.getElem?_take] at this
  split at this
  · rw [← Array.getElem?_toList]; exact this
  · cases this
theorem S.indexOw {α : Type} {enc : α → List Value} {t e : TypeId} {x y : Operand} {i : Nat} {v : Value} {xs : List α} {j : Int} {k : IntKind} {z : Value} {b : Nat} (s : St w R L) (hi : L[i]? = some (Ow e enc 1 v xs)) (ht : P.underlying t = some (.slice e)) (hz : TI P e z 1 b)
    (hx : ev r x = v) (hy : ev r y = .int k j) (hb : 0 ≤ j ∧ j < xs.length) (hw : wantR ⟨some d, .indexAddr t x y, ty, pos, aft, g⟩ ops r = true)
    (h : WS P ops Q os (upd r d (.pointer (some (elAddr v j.toNat)))) w) : WS P ops Q (⟨some d, .indexAddr t x y, ty, pos, aft, g⟩ :: os) r w := by
  have h0 : xs ≠ [] := by intro e; rw [e] at hb; simp at hb; omega
  obtain ⟨b, cap, cur, rfl, h1, h2, h3, h4, h5, s'⟩ := (s.at_ hi).openRow h0
  refine S.indexAddr ht hz hx hy hb hw ?_
  rw [Nat.mul_one]; exact h
theorem S.loadOw {α : Type} {enc : α → List Value} {t e : TypeId} {td : TypeDesc} {x : Operand} {i k : Nat} {v : Value} {xs : List α} {u : α} {c : Value} (s : St w R L) (hi : L[i]? = some (Ow e enc 1 v xs)) (he : ∀ x ∈ xs, (enc x).length = 1)
    (ht : P.underlying t = some td) (hta : agB (some td) = false) (hx : ev r x = .pointer (some (elAddr v k))) (hu : xs[k]? = some u) (hc : enc u = [c])
    (hw : wantR ⟨some d, .load t x, ty, pos, aft, g⟩ ops r = true) (h : WS P ops Q os (upd r d c) w) : WS P ops Q (⟨some d, .load t x, ty, pos, aft, g⟩ :: os) r w :=
  S.load1 ht hta hx (ow_cell s hi he hu hc) hw h
theorem S.storeOw {α : Type} {enc : α → List Value} {t e : TypeId} {z : Value} {b : Nat} {x y : Operand} {i k : Nat} {v : Value} {xs : List α} {u : α} {c : Value} {dd : Option Nat} (s : St w R L) (hi : L[i]? = some (Ow e enc 1 v xs)) (he : ∀ x ∈ xs, (enc x).length = 1)
    (hI : TI P t z 1 b) (hx : ev r x = .pointer (some (elAddr v k))) (hk : k < xs.length) (hy : ev r y = c) (hc : enc u = [c]) (ho : c.oneCell' = true) (hc1 : c.cells = #[c])
    (hw : wantR ⟨dd, .store t x y, ty, pos, aft, g⟩ ops r = true) (h : ∀ w', St w' R (L.set i (Ow e enc 1 v (xs.set k u))) → WS P ops Q os (updO r dd undef) w') :
    WS P ops Q (⟨dd, .store t x y, ty, pos, aft, g⟩ :: os) r w := by
  subst hy
  have h0 : xs ≠ [] := by intro e; rw [e] at hk; simp at hk
  obtain ⟨b, cap, cur, rfl, h1, h2, h3, h4, h5, s'⟩ := (s.at_ hi).openRow h0
  simp only [elAddr, Addr.add_none, Nat.zero_add] at hx
  have hkc : k < cur.size := by rw [h3]; omega
  refine WS.op hw ?_
  have hr : (execOp (ev r) ⟨dd, .store t x y, ty, pos, aft, g⟩).run P w = .ok .skip (w.setRow b (cur.toList.take k ++ [ev r y] ++ cur.toList.drop (k + 1)).toArray) := by
    have := run_storeCells_at P b k e [ev r y] 0 cur w s'.blkAt (by simp; omega) (by simpa using ho)
    simp only [Nat.add_zero, List.length_singleton] at this
    simp only [execOp, hx, Instr.storeAt, Instr.sureAddr, pure_bind, storeVar, Sem.run_bind, run_size hI, Result.andThen_ok, hc1]
    rw [if_neg (by simp)]
    rw [this]
    rfl
  unfold ROp; rw [hr]
  refine h _ ?_
  have s2 := s'.setRow (new := (cur.toList.take k ++ [ev r y] ++ cur.toList.drop (k + 1)).toArray)
  have hset : cur.toList.take k ++ [ev r y] ++ cur.toList.drop (k + 1) = cur.toList.set k (ev r y) := by
    rw [List.set_eq_take_append_cons_drop, if_pos (by simpa using hkc)]; simp
  rw [hset] at s2
  have hfl : ∀ (l : List α) (k : Nat), (∀ x ∈ l, (enc x).length = 1) → (l.set k u).flatMap enc = (l.flatMap enc).set k (ev r y) := by
    intro l
    induction l with
    | nil => intro k _; simp
    | cons a l ih =>
      intro k ha
      have hal := ha a (List.mem_cons_self ..)
      obtain ⟨q, hq⟩ := List.length_eq_one_iff.1 hal
      cases k with
      | zero => simp [hq, hc]
      | succ k => simp [hq, ih k (fun x hx => ha x (List.mem_cons_of_mem _ hx))]
  have s3 : St (w.setRow b (cur.toList.set k (ev r y)).toArray) R (Ow e enc 1 (.slice (some ⟨b, 0, none⟩) (xs.set k u).length cap) (xs.set k u) :: L.eraseIdx i) := by
    refine s2.shutRow (by simpa using h1) h2 (by simpa using h3) ?_ ?_
    · rw [List.length_set, hfl xs k he, ← h4, List.take_set]
    · rw [List.length_set, hfl xs k he, List.length_set, h5]
  rw [List.length_set] at s3
  have := s3.put_ (List.getElem?_eq_some_iff.1 hi).1
  rw [hset]; exact this
end
end Go.Proofs.Ytiffedgmageiaaa.B

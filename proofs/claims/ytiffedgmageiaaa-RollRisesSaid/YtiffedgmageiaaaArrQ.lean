/- The rules of arrays, in a walk that serves every order. Made by mkaq.py out of Arr.lean. -/
import Derived.Test.YtiffedgmageiaaaArr
namespace Go.Proofs.Ytiffedgmageiaaa.B
set_option linter.unusedVariables false
set_option linter.unusedSimpArgs false
open Go.RowKit
section
variable {P : Program} {ops : Array Oper} {C : World → Prop} {K : Regs → Prop} {r : Regs} {os : List Oper}
  {d : Nat} {ty t t' : TypeId} {pos : String} {aft : Array Edge} {g : Option (Nat × Bool)} {R : Kn} {L : List HP} {x y : Operand} {m : Nat}
theorem Q.ixArr {e : TypeId} {i : Int} {k : IntKind} {z : Value} {b b' : Nat} (ht : P.underlying t = some (.array m e)) (hz : TI P e z 1 b') (hx : ev r x = .pointer (some ⟨b, 0, none⟩)) (hy : ev r y = .int k i) (hb : 0 ≤ i ∧ i < m)
    (hw : wantR ⟨some d, .indexAddr t x y, ty, pos, aft, g⟩ ops r = true) (h : WQ P ops C K os (upd r d (.pointer (some ⟨b, i.toNat, none⟩)))) : WQ P ops C K (⟨some d, .indexAddr t x y, ty, pos, aft, g⟩ :: os) r := by
  refine Q.indexArr ht hz hx hy hb hw ?_
  rw [Addr.add_none, Nat.mul_one, Nat.zero_add]; exact h
theorem Q.ixElt {e : TypeId} {i : Int} {k : IntKind} {z : Value} {ad : Addr} {b' : Nat} (ht : P.underlying t = some (.array m e)) (hz : TI P e z 1 b') (hx : ev r x = .pointer (some ad)) (hy : ev r y = .int k i) (hb : 0 ≤ i ∧ i < m)
    (hw : wantR ⟨some d, .indexAddr t x y, ty, pos, aft, g⟩ ops r = true) (h : WQ P ops C K os (upd r d (.pointer (some (ad.add i.toNat))))) : WQ P ops C K (⟨some d, .indexAddr t x y, ty, pos, aft, g⟩ :: os) r := by
  refine Q.indexArr ht hz hx hy hb hw ?_
  rw [Nat.mul_one]; exact h
theorem Q.ixVal {e : TypeId} {td : TypeDesc} {z : Value} {b' : Nat} {i : Int} {k : IntKind} {xs : List Int} {u : Int} (ht : P.underlying t = some (.array m e)) (he : P.underlying e = some td) (hta : agB (some td) = false) (hz : TI P e z 1 b')
    (hx : ev r x = aV xs) (hy : ev r y = .int k i) (hb : 0 ≤ i ∧ i < m) (hu : xs[i.toNat]? = some u) (hw : wantR ⟨some d, .index t x y, ty, pos, aft, g⟩ ops r = true)
    (h : WQ P ops C K os (upd r d (.int .i64 u))) : WQ P ops C K (⟨some d, .index t x y, ty, pos, aft, g⟩ :: os) r := by
  refine Q.val hw (fun w hC => ?_) h
  simp only [execOp, hx, hy, Instr.index, asIntOf, pure_bind, Sem.run_bind, run_underlying ht, Result.andThen_ok, Sem.run_pure, if_pos hb, run_size hz, Nat.mul_one, part, run_isAgg he, hta, Bool.false_eq_true, if_false, aI_get hu]
theorem Q.ixValG {e : TypeId} {td : TypeDesc} {z : Value} {b' : Nat} {i : Int} {k : IntKind} {xs : List Int} (ht : P.underlying t = some (.array m e)) (he : P.underlying e = some td) (hta : agB (some td) = false) (hz : TI P e z 1 b')
    (hx : ev r x = aV xs) (hy : ev r y = .int k i) (hl : xs.length = m) (hb : 0 ≤ i ∧ i < m) (hw : wantR ⟨some d, .index t x y, ty, pos, aft, g⟩ ops r = true)
    (h : WQ P ops C K os (upd r d (.int .i64 (xs.getD i.toNat 0)))) : WQ P ops C K (⟨some d, .index t x y, ty, pos, aft, g⟩ :: os) r :=
  Q.ixVal ht he hta hz hx hy hb (getD_some (by omega)) hw h
theorem Q.arrAll {e : TypeId} {z : Value} {b b' : Nat} (ht : P.underlying t = some (.array m e)) (hz : TI P e z 1 b') (hx : ev r x = .pointer (some ⟨b, 0, none⟩)) (hw : wantR ⟨some d, .slice t x none none none, ty, pos, aft, g⟩ ops r = true)
    (h : WQ P ops C K os (upd r d (.slice (some ⟨b, 0, none⟩) m m))) : WQ P ops C K (⟨some d, .slice t x none none none, ty, pos, aft, g⟩ :: os) r := by
  refine Q.val hw (fun w hC => ?_) h
  simp only [execOp, hx, Option.map_none, run_arrSlice (w := w) none m ht hz (.inl ⟨rfl, rfl⟩), Sem.run_bind, Result.andThen_ok, Sem.run_pure]
theorem Q.arrHi {e : TypeId} {z : Value} {b b' : Nat} {i : Int} {kd : IntKind} (k : Nat) (ht : P.underlying t = some (.array m e)) (hz : TI P e z 1 b') (hx : ev r x = .pointer (some ⟨b, 0, none⟩)) (hy : ev r y = .int kd i) (hi : i = (k : Int)) (hk : k ≤ m)
    (hw : wantR ⟨some d, .slice t x none (some y) none, ty, pos, aft, g⟩ ops r = true)
    (h : WQ P ops C K os (upd r d (.slice (some ⟨b, 0, none⟩) k m))) : WQ P ops C K (⟨some d, .slice t x none (some y) none, ty, pos, aft, g⟩ :: os) r := by
  subst hi
  refine Q.val hw (fun w hC => ?_) h
  simp only [execOp, hx, hy, Option.map_none, Option.map_some, run_arrSlice (w := w) (some (.int kd (k : Int))) k ht hz (.inr ⟨kd, rfl, hk⟩), Sem.run_bind, Result.andThen_ok, Sem.run_pure]
theorem Q.loadArr {e : TypeId} {z : Value} {b' i b : Nat} {te : TypeId} {fz : Nat × Nat} {xs : List Int} (hi : L[i]? = some (blk b (.cells (aI xs) te fz))) (ht : P.underlying t = some (.array m e)) (hI : TI P t z m b') (hl : xs.length = m)
    (hx : ev r x = .pointer (some ⟨b, 0, none⟩)) (hw : wantR ⟨some d, .load t x, ty, pos, aft, g⟩ ops r = true) (h : WQ P ops (fun w => St w R L) K os (upd r d (aV xs))) : WQ P ops (fun w => St w R L) K (⟨some d, .load t x, ty, pos, aft, g⟩ :: os) r :=
  Q.loadBA (cs := encA xs) hi ht rfl hI hx (by rw [encA_len]; exact hl) (by rw [List.drop_zero, aI_toList, List.take_of_length_le (by rw [encA_len]; omega)]) hw h
theorem Q.loadKn {e : TypeId} {z : Value} {b' b k : Nat} {xs : List Int} {m : Nat} (hro : Ro R (encI .i64) 1 (.slice (some ⟨b, 0, none⟩) xs.length k) xs) (ht : P.underlying t = some (.array m e)) (hI : TI P t z m b') (hl : xs.length = m)
    (hx : ev r x = .pointer (some ⟨b, 0, none⟩)) (hw : wantR ⟨some d, .load t x, ty, pos, aft, g⟩ ops r = true) (h : WQ P ops (fun w => St w R L) K os (upd r d (aV xs))) : WQ P ops (fun w => St w R L) K (⟨some d, .load t x, ty, pos, aft, g⟩ :: os) r := by
  refine Q.loadRoA (cs := encA xs) ?_ (by rw [encA_len]; exact hl) ht rfl hI hx hw h
  intro j c hc
  rcases hro with ⟨h1, _⟩ | ⟨a, c', h1, h2, h3⟩
  · cases h1
  · injection h1 with h1 _ _
    injection h1 with h1
    subst h1
    unfold encA at hc
    rw [List.getElem?_map] at hc
    obtain ⟨u, hu, rfl⟩ := Option.map_eq_some_iff.1 hc
    have := (h3 j u hu).2 0 (.int .i64 u) rfl
    rwa [Nat.mul_one, Nat.add_zero] at this
theorem Q.loadAt {td : TypeDesc} {i b off : Nat} {te : TypeId} {fz : Nat × Nat} {xs : List Int} {u : Int} (hi : L[i]? = some (blk b (.cells (aI xs) te fz))) (ht : P.underlying t = some td) (hta : agB (some td) = false)
    (hx : ev r x = .pointer (some ⟨b, off, none⟩)) (hu : xs[off]? = some u) (hw : wantR ⟨some d, .load t x, ty, pos, aft, g⟩ ops r = true) (h : WQ P ops (fun w => St w R L) K os (upd r d (.int .i64 u))) : WQ P ops (fun w => St w R L) K (⟨some d, .load t x, ty, pos, aft, g⟩ :: os) r :=
  Q.loadB hi ht hta hx (aI_get hu) hw h
theorem Q.loadAtG {td : TypeDesc} {i b off : Nat} {te : TypeId} {fz : Nat × Nat} {xs : List Int} (hi : L[i]? = some (blk b (.cells (aI xs) te fz))) (ht : P.underlying t = some td) (hta : agB (some td) = false)
    (hx : ev r x = .pointer (some ⟨b, off, none⟩)) (hl : xs.length = m) (ho : off < m) (hw : wantR ⟨some d, .load t x, ty, pos, aft, g⟩ ops r = true) (h : WQ P ops (fun w => St w R L) K os (upd r d (.int .i64 (xs.getD off 0)))) : WQ P ops (fun w => St w R L) K (⟨some d, .load t x, ty, pos, aft, g⟩ :: os) r :=
  Q.loadAt hi ht hta hx (getD_some (by omega)) hw h
theorem Q.loadKnAt {td : TypeDesc} {b off len k : Nat} {xs : List Int} (hro : Ro R (encI .i64) 1 (.slice (some ⟨b, 0, none⟩) len k) xs) (ht : P.underlying t = some td) (hta : agB (some td) = false)
    (hx : ev r x = .pointer (some ⟨b, off, none⟩)) (hl : xs.length = m) (ho : off < m) (hw : wantR ⟨some d, .load t x, ty, pos, aft, g⟩ ops r = true) (h : WQ P ops (fun w => St w R L) K os (upd r d (.int .i64 (xs.getD off 0)))) : WQ P ops (fun w => St w R L) K (⟨some d, .load t x, ty, pos, aft, g⟩ :: os) r :=
  Q.load1 ht hta hx (fun w s => s.roCell (roArr hro (by omega))) hw h
theorem Q.loadEltAt {td : TypeDesc} {ad : Addr} {off : Nat} {xs : List Int} (hc : ∀ j c, (encA xs)[j]? = some c → roCell R (ad.add j) c) (ht : P.underlying t = some td) (hta : agB (some td) = false)
    (hx : ev r x = .pointer (some (ad.add off))) (hl : xs.length = m) (ho : off < m) (hw : wantR ⟨some d, .load t x, ty, pos, aft, g⟩ ops r = true) (h : WQ P ops (fun w => St w R L) K os (upd r d (.int .i64 (xs.getD off 0)))) : WQ P ops (fun w => St w R L) K (⟨some d, .load t x, ty, pos, aft, g⟩ :: os) r :=
  Q.load1 ht hta hx (fun w s => s.roCell (hc off _ (by unfold encA; rw [List.getElem?_map, getD_some (by omega)]; rfl))) hw h
theorem Q.loadEltA {z : Value} {b' : Nat} {e : TypeId} {ad : Addr} {xs : List Int} (hc : ∀ j c, (encA xs)[j]? = some c → roCell R (ad.add j) c) (hl : (encA xs).length = m) (ht : P.underlying t = some (.array m e)) (hI : TI P t z m b')
    (hx : ev r x = .pointer (some ad)) (hw : wantR ⟨some d, .load t x, ty, pos, aft, g⟩ ops r = true) (h : WQ P ops (fun w => St w R L) K os (upd r d (aV xs))) : WQ P ops (fun w => St w R L) K (⟨some d, .load t x, ty, pos, aft, g⟩ :: os) r :=
  Q.loadRoA hc hl ht rfl hI hx hw h
end
end Go.Proofs.Ytiffedgmageiaaa.B

/- One rule for each operation on memory: blocks of one's own, rows that never change, rows that grow, structs, calls. -/
import Derived.Test.YtiffedgmageiaaaOps
import Derived.Laws.Cells
namespace Go.Proofs.Ytiffedgmageiaaa.B
set_option linter.unusedVariables false
set_option linter.unusedSimpArgs false

/-- A type's row: its zero value, how many cells, how many bytes. -/
def TI (P : Program) (t : TypeId) (z : Value) (n b : Nat) : Prop := ∃ i, P.info? t = some i ∧ i.zero = some z ∧ i.size = n ∧ i.bytes = b
theorem TI.mk {P : Program} {t : TypeId} {z : Value} {n b : Nat} (h : (P.info? t).map (fun i => (i.zero, i.size, i.bytes)) = some (some z, n, b)) : TI P t z n b := by
  cases hi : P.info? t with
  | none => rw [hi] at h; cases h
  | some i =>
    rw [hi] at h
    simp only [Option.map_some, Option.some.injEq, Prod.mk.injEq] at h
    exact ⟨i, hi, h.1, h.2.1, h.2.2⟩
/-- Whether a type is a struct or an array. -/
def agB : Option TypeDesc → Bool
  | some (.struct _) | some (.array _ _) => true
  | _ => false

section
variable {P : Program} {w : World} {t : TypeId} {z : Value} {n b : Nat}
theorem run_zero (h : TI P t z n b) : (zeroValue t).run P w = .ok z w := by
  obtain ⟨i, hi, hz, _⟩ := h
  simp [zeroValue, typeInfo, Sem.run_bind, hi, hz]
theorem run_size (h : TI P t z n b) : (sizeOf t).run P w = .ok n w := by
  obtain ⟨i, hi, hz, hs, _⟩ := h
  simp [sizeOf, typeInfo, Sem.run_bind, hi, hs]
theorem run_isAgg {td : TypeDesc} (h : P.underlying t = some td) : (isAgg t).run P w = .ok (agB (some td)) w := by
  unfold isAgg
  simp only [Sem.run_bind, run_underlying h, Result.andThen_ok]
  cases td <;> rfl
theorem run_typeInfo (h : TI P t z n b) : ∃ i, (typeInfo t).run P w = .ok i w ∧ i.zero = some z ∧ i.size = n ∧ i.bytes = b := by
  obtain ⟨i, hi, hz, hs, hb⟩ := h
  exact ⟨i, by simp [typeInfo, Sem.run_bind, hi], hz, hs, hb⟩
end

theorem Addr.add_none {b o n : Nat} : (⟨b, o, none⟩ : Addr).add n = ⟨b, o + n, none⟩ := by
  unfold Addr.add; split
  · subst_vars; rfl
  · rfl

/-- A cell that never changes. -/
def roCell (R : Kn) (a : Addr) (v : Value) : Prop := a.spot = none ∧ ∃ c t fz, R.mem a.block = some (.cells c t fz) ∧ c[a.off]? = some v
theorem roCell.mono {R S : Kn} {a : Addr} {v : Value} (h : roCell R a v) (hs : R.le S) : roCell S a v :=
  let ⟨h0, c, t, fz, h1, h2⟩ := h; ⟨h0, c, t, fz, hs.mem _ _ h1, h2⟩
theorem St.roCell {w : World} {R : Kn} {L : List HP} {a : Addr} {v : Value} (s : St w R L) (h : B.roCell R a v) : w.cell? a = some v := by
  obtain ⟨h0, c, t, fz, h1, h2⟩ := h
  have := s.know _ _ h1
  simp only [hp] at this
  simp [World.cell?, this, h0, h2]
theorem cell_of_heap {w : World} {b off : Nat} {c : Array Value} {t : TypeId} {fz : Nat × Nat} {v : Value} (h : w.heap[b]? = some (.cells c t fz)) (hv : c[off]? = some v) : w.cell? ⟨b, off, none⟩ = some v := by
  simp [World.cell?, h, hv]

/-- A row that never changes: its elements, each of so many cells. -/
def Ro (R : Kn) {α : Type} (enc : α → List Value) (n : Nat) (v : Value) (xs : List α) : Prop :=
  (v = .slice none 0 0 ∧ xs = []) ∨
  ∃ a c, v = .slice (some a) xs.length c ∧ xs.length ≤ c ∧ ∀ i x, xs[i]? = some x → (enc x).length = n ∧ ∀ j u, (enc x)[j]? = some u → roCell R (a.add (i * n + j)) u
theorem Ro.mono {R S : Kn} {α : Type} {enc : α → List Value} {n : Nat} {v : Value} {xs : List α} (h : Ro R enc n v xs) (hs : R.le S) : Ro S enc n v xs := by
  rcases h with h | ⟨a, c, h1, h2, h3⟩
  · exact .inl h
  · exact .inr ⟨a, c, h1, h2, fun i x hx => ⟨(h3 i x hx).1, fun j u hu => ((h3 i x hx).2 j u hu).mono hs⟩⟩
theorem Ro.len {R : Kn} {α : Type} {enc : α → List Value} {n : Nat} {v : Value} {xs : List α} (h : Ro R enc n v xs) : ∃ a c, v = .slice a xs.length c ∧ xs.length ≤ c := by
  rcases h with ⟨h, rfl⟩ | ⟨a, c, h1, h2, _⟩
  · exact ⟨none, 0, h, Nat.le_refl _⟩
  · exact ⟨some a, c, h1, h2⟩
theorem Ro.nil {R : Kn} {α : Type} {enc : α → List Value} {n : Nat} : Ro R enc n (.slice none 0 0) ([] : List α) := .inl ⟨rfl, rfl⟩

def encI (k : IntKind) (x : Int) : List Value := [.int k x]
def encS (b : ByteArray) : List Value := [.string b]

section
variable {P : Program} {ops : Array Oper} {Q : Exit → Regs → World → Prop} {r : Regs} {w : World} {os : List Oper}
  {d : Nat} {ty : TypeId} {pos : String} {aft : Array Edge} {g : Option (Nat × Bool)} {R : Kn} {L : List HP}

/-! ### new variables -/
theorem run_newVar (t : TypeId) (v : Value) : (newVar t v).run P w = .ok ⟨w.heap.size, 0, none⟩ { w with heap := w.heap.push (.cells v.cells t) } := rfl
theorem S.alloc {t : TypeId} {z : Value} {n b : Nat} {cs : Array Value} (s : St w R L) (ht : TI P t z n b) (hz : z.cells = cs) (hw : wantR ⟨some d, .alloc t, ty, pos, aft, g⟩ ops r = true)
    (h : ∀ b w', St w' R (blk b (.cells cs t (0, 0)) :: L) → WS P ops Q os (upd r d (.pointer (some ⟨b, 0, none⟩))) w') : WS P ops Q (⟨some d, .alloc t, ty, pos, aft, g⟩ :: os) r w := by
  subst hz
  refine WS.op hw ?_
  have hr : (execOp (ev r) ⟨some d, .alloc t, ty, pos, aft, g⟩).run P w = .ok (.value (.pointer (some ⟨w.heap.size, 0, none⟩))) { w with heap := w.heap.push (.cells z.cells t) } := by
    simp only [execOp, Instr.alloc, Sem.run_bind, run_zero ht, Result.andThen_ok, run_newVar, Sem.run_pure]
  unfold ROp; rw [hr]
  exact h _ _ (s.new _)
theorem S.box {t : TypeId} {x : Operand} {v : Value} {cs : Array Value} (s : St w R L) (hx : ev r x = v) (hz : v.cells = cs) (hw : wantR ⟨some d, .box t x, ty, pos, aft, g⟩ ops r = true)
    (h : ∀ b w', St w' R (blk b (.cells cs t (0, 0)) :: L) → WS P ops Q os (upd r d (.pointer (some ⟨b, 0, none⟩))) w') : WS P ops Q (⟨some d, .box t x, ty, pos, aft, g⟩ :: os) r w := by
  subst hz; subst hx
  refine WS.op hw ?_
  have hr : (execOp (ev r) ⟨some d, .box t x, ty, pos, aft, g⟩).run P w = .ok (.value (.pointer (some ⟨w.heap.size, 0, none⟩))) { w with heap := w.heap.push (.cells (ev r x).cells t) } := by
    simp only [execOp, Instr.box, Sem.run_bind, Result.andThen_ok, run_newVar, Sem.run_pure]
  unfold ROp; rw [hr]
  exact h _ _ (s.new _)

/-! ### loads -/
/-- A cell is read. -/
theorem S.load1 {t : TypeId} {td : TypeDesc} {x : Operand} {a : Addr} {v : Value} (ht : P.underlying t = some td) (hta : agB (some td) = false) (hx : ev r x = .pointer (some a)) (hc : w.cell? a = some v)
    (hw : wantR ⟨some d, .load t x, ty, pos, aft, g⟩ ops r = true) (h : WS P ops Q os (upd r d v) w) : WS P ops Q (⟨some d, .load t x, ty, pos, aft, g⟩ :: os) r w := by
  refine S.val hw ?_ h
  simp only [execOp, hx, Instr.loadAt, Instr.sureAddr, pure_bind, loadVar, Sem.run_bind, run_isAgg ht, hta, Result.andThen_ok, Bool.false_eq_true, if_false]
  rw [show (load a).run P w = .ok v w from by simp [load, Sem.run, hc]]
  rfl
theorem run_loadAgg {t : TypeId} {td : TypeDesc} {z : Value} {n b : Nat} {a : Addr} {cs : List Value} (ht : P.underlying t = some td) (hta : agB (some td) = true) (hi : TI P t z n b) (hn : cs.length = n)
    (hc : ∀ j u, cs[j]? = some u → w.cell? (a.add j) = some u) : (loadVar t a).run P w = .ok (.agg cs.toArray) w := by
  simp only [loadVar, Sem.run_bind, run_isAgg ht, hta, Result.andThen_ok, if_true, run_size hi]
  subst hn
  rw [run_loadCells_list (P := P) w a cs hc]
  rfl
/-- A struct or an array is read. -/
theorem S.loadA {t : TypeId} {td : TypeDesc} {z : Value} {n b : Nat} {x : Operand} {a : Addr} {cs : List Value} (ht : P.underlying t = some td) (hta : agB (some td) = true) (hi : TI P t z n b)
    (hx : ev r x = .pointer (some a)) (hn : cs.length = n) (hc : ∀ j u, cs[j]? = some u → w.cell? (a.add j) = some u)
    (hw : wantR ⟨some d, .load t x, ty, pos, aft, g⟩ ops r = true) (h : WS P ops Q os (upd r d (.agg cs.toArray)) w) : WS P ops Q (⟨some d, .load t x, ty, pos, aft, g⟩ :: os) r w := by
  refine S.val hw ?_ h
  simp only [execOp, hx, Instr.loadAt, Instr.sureAddr, pure_bind, Sem.run_bind, run_loadAgg ht hta hi hn hc, Result.andThen_ok]
  rfl

/-! ### a block of one's own: it lies somewhere in the list -/
theorem perm_erase {α : Type} : ∀ (l : List α) (i : Nat) (x : α), l[i]? = some x → l.Perm (x :: l.eraseIdx i)
  | [], _, _, h => by cases h
  | y :: l, 0, x, h => by cases h; exact .refl _
  | y :: l, i + 1, x, h => ((perm_erase l i x h).cons y).trans (.swap x y _)
theorem perm_set {α : Type} : ∀ (l : List α) (i : Nat) (x : α), i < l.length → (x :: l.eraseIdx i).Perm (l.set i x)
  | [], _, _, h => by cases h
  | y :: l, 0, x, _ => .refl _
  | y :: l, i + 1, x, h => (List.Perm.swap y x _).trans ((perm_set l i x (Nat.lt_of_succ_lt_succ h)).cons y)
theorem St.at_ {i : Nat} {H : HP} (s : St w R L) (hi : L[i]? = some H) : St w R (H :: L.eraseIdx i) := s.perm (perm_erase L i H hi)
theorem St.put_ {i : Nat} {H : HP} (hi : i < L.length) (s : St w R (H :: L.eraseIdx i)) : St w R (L.set i H) := s.perm (perm_set L i H hi)
/-- One cell of a block of one's own is read. -/
theorem S.loadB {t : TypeId} {td : TypeDesc} {x : Operand} {i b off : Nat} {c : Array Value} {t' : TypeId} {fz : Nat × Nat} {v : Value} (s : St w R L) (hi : L[i]? = some (blk b (.cells c t' fz)))
    (ht : P.underlying t = some td) (hta : agB (some td) = false) (hx : ev r x = .pointer (some ⟨b, off, none⟩)) (hv : c[off]? = some v)
    (hw : wantR ⟨some d, .load t x, ty, pos, aft, g⟩ ops r = true) (h : WS P ops Q os (upd r d v) w) : WS P ops Q (⟨some d, .load t x, ty, pos, aft, g⟩ :: os) r w :=
  S.load1 ht hta hx (cell_of_heap (s.at_ hi).blkAt hv) hw h
/-- Cells of a block of one's own are read as a struct or an array. -/
theorem S.loadBA {t : TypeId} {td : TypeDesc} {z : Value} {n b' : Nat} {x : Operand} {i b off : Nat} {c : Array Value} {t' : TypeId} {fz : Nat × Nat} {cs : List Value} (s : St w R L) (hi : L[i]? = some (blk b (.cells c t' fz)))
    (ht : P.underlying t = some td) (hta : agB (some td) = true) (hI : TI P t z n b') (hx : ev r x = .pointer (some ⟨b, off, none⟩)) (hn : cs.length = n) (hv : (c.toList.drop off).take n = cs)
    (hw : wantR ⟨some d, .load t x, ty, pos, aft, g⟩ ops r = true) (h : WS P ops Q os (upd r d (.agg cs.toArray)) w) : WS P ops Q (⟨some d, .load t x, ty, pos, aft, g⟩ :: os) r w := by
  refine S.loadA ht hta hI hx hn ?_ hw h
  intro j u hu
  rw [Addr.add_none]
  refine cell_of_heap (s.at_ hi).blkAt ?_
  rw [← hv, List.getElem?_take, List.getElem?_drop] at hu
  split at hu
  · rw [← Array.getElem?_toList]; exact hu
  · cases hu

/-! ### stores -/
theorem St.setRow {g : Nat} {cur new : Array Value} {e : TypeId} (s : St w R (blk g (.cells cur e (0, 0)) :: L)) : St (w.setRow g new) R (blk g (.cells new e (0, 0)) :: L) := by
  have hg : w.heap[g]? = some (.cells cur e (0, 0)) := s.blkAt
  refine s.turn rfl rfl rfl ?_
  intro h a c
  refine ⟨fun x => if x = g then some (.cells new e (0, 0)) else none, by simp [blk], ?_, ?_, ?_⟩
  · intro x u hx
    by_cases e' : x = g
    · subst e'; simp only [if_true] at hx; cases hx; exact setRow_heap w x cur new e _ hg
    · simp [e'] at hx
  · intro x u hx
    by_cases e' : x = g
    · subst e'; exact .inl ⟨_, a⟩
    · simp [e'] at hx
  · intro x hx hn
    have : x ≠ g := fun e' => by subst e'; rw [show h x = some _ from a] at hn; cases hn
    exact setRow_other w g x new this

/-- Cells of a block of one's own are written. -/
theorem S.storeB {t : TypeId} {z : Value} {n b' : Nat} {x y : Operand} {i b off : Nat} {c : Array Value} {t' : TypeId} {v : Value} {vs : List Value} {c' : List Value} {dd : Option Nat} (s : St w R L) (hi : L[i]? = some (blk b (.cells c t' (0, 0))))
    (hI : TI P t z n b') (hx : ev r x = .pointer (some ⟨b, off, none⟩)) (hy : ev r y = v) (hv : v.cells.toList = vs) (hn : vs.length = n) (ho : (vs.all fun u => u.oneCell') = true) (hle : decide (off + n ≤ c.size) = true)
    (hc : c.toList.take off ++ (vs ++ c.toList.drop (off + n)) = c')
    (hw : wantR ⟨dd, .store t x y, ty, pos, aft, g⟩ ops r = true) (h : ∀ w', St w' R (L.set i (blk b (.cells c'.toArray t' (0, 0)))) → WS P ops Q os (updO r dd undef) w') :
    WS P ops Q (⟨dd, .store t x y, ty, pos, aft, g⟩ :: os) r w := by
  subst hy; subst hn; subst hv; subst hc
  refine WS.op hw ?_
  have hle' : off + (ev r y).cells.toList.length ≤ c.size := by simpa using hle
  have hsz : (ev r y).cells.size = (ev r y).cells.toList.length := rfl
  have hr : (execOp (ev r) ⟨dd, .store t x y, ty, pos, aft, g⟩).run P w = .ok .skip (w.setRow b (c.toList.take off ++ (ev r y).cells.toList ++ c.toList.drop (off + (ev r y).cells.toList.length)).toArray) := by
    have := run_storeCells_at P b off t' (ev r y).cells.toList 0 c w (s.at_ hi).blkAt (by simpa using hle') (List.all_eq_true.1 ho)
    simp only [Nat.add_zero] at this
    simp only [execOp, hx, Instr.storeAt, Instr.sureAddr, pure_bind, storeVar, Sem.run_bind, run_size hI, Result.andThen_ok]
    rw [if_neg (fun e => e hsz), this]
    rfl
  unfold ROp; rw [hr]
  refine h _ ?_
  rw [← List.append_assoc]
  exact ((s.at_ hi).setRow).put_ (List.getElem?_eq_some_iff.1 hi).1

/-! ### addresses -/
theorem S.fieldAddr {t : TypeId} {fs : Array Field} {x : Operand} {f : Nat} {a : Addr} {fd : Field} {z : Value} {n b : Nat} (ht : P.underlying t = some (.struct fs)) (hf : fs[f]? = some fd) (hz : TI P fd.type z n b) (hn : n ≠ 0)
    (hx : ev r x = .pointer (some a)) (hw : wantR ⟨some d, .fieldAddr t x f, ty, pos, aft, g⟩ ops r = true)
    (h : WS P ops Q os (upd r d (.pointer (some (a.add fd.offset)))) w) : WS P ops Q (⟨some d, .fieldAddr t x f, ty, pos, aft, g⟩ :: os) r w := by
  refine S.val hw ?_ h
  simp only [execOp, hx, Instr.fieldAt, Sem.run_bind, run_underlying ht, Result.andThen_ok, hf, Instr.sureAddr, pure_bind, fieldPlace, run_size hz, if_neg hn, Sem.run_pure]
/-- The address of a field, where it lies by itself (one's own block). -/
theorem S.fieldB {t : TypeId} {fs : Array Field} {x : Operand} {f bk off off' : Nat} {fd : Field} {z : Value} {n b : Nat} (ht : P.underlying t = some (.struct fs)) (hf : fs[f]? = some fd) (hz : TI P fd.type z n b) (hn : Nat.blt 0 n = true)
    (hx : ev r x = .pointer (some ⟨bk, off, none⟩)) (ho : off + fd.offset = off') (hw : wantR ⟨some d, .fieldAddr t x f, ty, pos, aft, g⟩ ops r = true)
    (h : WS P ops Q os (upd r d (.pointer (some ⟨bk, off', none⟩))) w) : WS P ops Q (⟨some d, .fieldAddr t x f, ty, pos, aft, g⟩ :: os) r w := by
  refine S.fieldAddr ht hf hz (Nat.pos_iff_ne_zero.1 (by simpa using hn)) hx hw ?_
  rw [Addr.add_none, ho]
  exact h
theorem S.indexAddr {t e : TypeId} {x y : Operand} {a : Addr} {len cap : Nat} {i : Int} {k : IntKind} {z : Value} {n b : Nat} (ht : P.underlying t = some (.slice e)) (hz : TI P e z n b)
    (hx : ev r x = .slice (some a) len cap) (hy : ev r y = .int k i) (hb : 0 ≤ i ∧ i < len) (hw : wantR ⟨some d, .indexAddr t x y, ty, pos, aft, g⟩ ops r = true)
    (h : WS P ops Q os (upd r d (.pointer (some (a.add (i.toNat * n))))) w) : WS P ops Q (⟨some d, .indexAddr t x y, ty, pos, aft, g⟩ :: os) r w := by
  refine S.val hw ?_ h
  simp only [execOp, hx, hy, Instr.indexAt, asIntOf, pure_bind, Sem.run_bind, run_underlying ht, Result.andThen_ok, Sem.run_pure, if_pos hb, run_size hz]
/-- The address of an element of an array. -/
theorem S.indexArr {t e : TypeId} {m : Nat} {x y : Operand} {a : Addr} {i : Int} {k : IntKind} {z : Value} {n b : Nat} (ht : P.underlying t = some (.array m e)) (hz : TI P e z n b)
    (hx : ev r x = .pointer (some a)) (hy : ev r y = .int k i) (hb : 0 ≤ i ∧ i < m) (hw : wantR ⟨some d, .indexAddr t x y, ty, pos, aft, g⟩ ops r = true)
    (h : WS P ops Q os (upd r d (.pointer (some (a.add (i.toNat * n))))) w) : WS P ops Q (⟨some d, .indexAddr t x y, ty, pos, aft, g⟩ :: os) r w := by
  refine S.val hw ?_ h
  simp only [execOp, hx, hy, Instr.indexAt, asIntOf, pure_bind, Sem.run_bind, run_underlying ht, Result.andThen_ok, Sem.run_pure, if_pos hb, run_size hz, Instr.sureAddr]

/-! ### parts of values -/
theorem S.extract {x : Operand} {vs : Array Value} {i : Nat} {v : Value} (hx : ev r x = .tuple vs) (hv : vs[i]? = some v) (hw : wantR ⟨some d, .extract x i, ty, pos, aft, g⟩ ops r = true)
    (h : WS P ops Q os (upd r d v) w) : WS P ops Q (⟨some d, .extract x i, ty, pos, aft, g⟩ :: os) r w :=
  S.val hw (by simp [execOp, hx, Instr.extract, hv, Sem.run_bind]) h
theorem S.len {t : TypeId} {x : Operand} {v : Value} {n : Nat} {at_ : Array TypeId} (hl : (Builtin.len_ at_ ty #[v]).run P w = .ok (.int .i64 n) w) (hx : ev r x = v)
    (hw : wantR ⟨some d, .call { callee := .builtin .len, args := #[x], argTypes := at_ }, ty, pos, aft, g⟩ ops r = true)
    (h : WS P ops Q os (upd r d (.int .i64 n)) w) : WS P ops Q (⟨some d, .call { callee := .builtin .len, args := #[x], argTypes := at_ }, ty, pos, aft, g⟩ :: os) r w := by
  subst hx
  refine S.val hw ?_ h
  simp only [execOp, resolve, invoke, builtin, List.map_toArray, List.map_cons, List.map_nil, pure_bind, Sem.run_bind, hl, Result.andThen_ok, Sem.run_pure]
theorem S.lenSl {t e : TypeId} {x : Operand} {a : Option Addr} {n c : Nat} (ht : P.underlying t = some (.slice e)) (hx : ev r x = .slice a n c)
    (hw : wantR ⟨some d, .call { callee := .builtin .len, args := #[x], argTypes := #[t] }, ty, pos, aft, g⟩ ops r = true)
    (h : WS P ops Q os (upd r d (.int .i64 n)) w) : WS P ops Q (⟨some d, .call { callee := .builtin .len, args := #[x], argTypes := #[t] }, ty, pos, aft, g⟩ :: os) r w :=
  S.len (t := t) (by simp [Builtin.len_, Sem.run_bind, run_underlying ht, goInt]) hx hw h
theorem S.lenStr {t : TypeId} {x : Operand} {a : ByteArray} (ht : P.underlying t = some .string) (hx : ev r x = .string a)
    (hw : wantR ⟨some d, .call { callee := .builtin .len, args := #[x], argTypes := #[t] }, ty, pos, aft, g⟩ ops r = true)
    (h : WS P ops Q os (upd r d (.int .i64 a.size)) w) : WS P ops Q (⟨some d, .call { callee := .builtin .len, args := #[x], argTypes := #[t] }, ty, pos, aft, g⟩ :: os) r w :=
  S.len (t := t) (by simp [Builtin.len_, Sem.run_bind, run_underlying ht, goInt]) hx hw h

/-! ### calls -/
/-- A function with a text of its own. -/
def Ent (P : Program) (f : FuncId) : Prop := ∃ fn, P.funcs[f]? = some fn ∧ (fn.name == "runtime.NumGoroutine") = false ∧ fn.body.isNone = false
theorem Ent.mk {P : Program} {f : FuncId} {fn : Func} (h : P.funcs[f]? = some fn) (h1 : (fn.name == "runtime.NumGoroutine") = false) (h2 : fn.body.isNone = false) : Ent P f := ⟨fn, h, h1, h2⟩
theorem run_callFunc {P : Program} {f : FuncId} (h : Ent P f) (args : Array Value) (w : World) : (callFunc f args).run P w = .ok (.enter f args) w := by
  obtain ⟨fn, h0, h1, h2⟩ := h
  simp only [callFunc, Sem.run_bind, run_program, Result.andThen_ok, h0, h1, h2, Bool.false_eq_true, if_false, Sem.run_pure]
theorem S.call {f : FuncId} {as : List Operand} {at_ : Array TypeId} {vs : List Value} {Post : Value → World → Prop} (he : Ent P f) (ha : as.map (ev r) = vs)
    (hF : Fn P f vs.toArray w Post) (hw : wantR ⟨some d, .call { callee := .value (.func f), args := as.toArray, argTypes := at_ }, ty, pos, aft, g⟩ ops r = true)
    (h : ∀ v w', Post v w' → WS P ops Q os (upd r d v) w') : WS P ops Q (⟨some d, .call { callee := .value (.func f), args := as.toArray, argTypes := at_ }, ty, pos, aft, g⟩ :: os) r w := by
  subst ha
  refine WS.op hw ?_
  have hr : (execOp (ev r) ⟨some d, .call { callee := .value (.func f), args := as.toArray, argTypes := at_ }, ty, pos, aft, g⟩).run P w = .ok (.enter f (as.map (ev r)).toArray) w := by
    simp only [execOp, resolve, ev, Deferred.ofValue, invoke, pure_bind, List.map_toArray]
    simp [run_callFunc he, Sem.run_bind]
  unfold ROp; rw [hr]
  exact hF.mono h
/-- A call of a function value. -/
theorem S.callV {f : FuncId} {x : Operand} {cap : Array Value} {as : List Operand} {at_ : Array TypeId} {vs : List Value} {Post : Value → World → Prop} (he : Ent P f) (hf : ev r x = .func (.func f) #[] cap) (ha : as.map (ev r) ++ cap.toList = vs)
    (hF : Fn P f vs.toArray w Post) (hw : wantR ⟨some d, .call { callee := .value x, args := as.toArray, argTypes := at_ }, ty, pos, aft, g⟩ ops r = true)
    (h : ∀ v w', Post v w' → WS P ops Q os (upd r d v) w') : WS P ops Q (⟨some d, .call { callee := .value x, args := as.toArray, argTypes := at_ }, ty, pos, aft, g⟩ :: os) r w := by
  subst ha
  refine WS.op hw ?_
  have hr : (execOp (ev r) ⟨some d, .call { callee := .value x, args := as.toArray, argTypes := at_ }, ty, pos, aft, g⟩).run P w = .ok (.enter f (as.map (ev r) ++ cap.toList).toArray) w := by
    simp only [execOp, resolve, hf, Deferred.ofValue, invoke, pure_bind, List.map_toArray]
    simp [run_callFunc he, Sem.run_bind]
  unfold ROp; rw [hr]
  exact hF.mono h
end
end Go.Proofs.Ytiffedgmageiaaa.B

/- The rules of a walk that serves every order of a region: nothing is changed there. Made by mkq.py out of the rules of a walk in the text's order. -/
import Derived.Test.YtiffedgmageiaaaRowsB
import Derived.Deep.Quiet
namespace Go.Proofs.Ytiffedgmageiaaa.B
set_option linter.unusedVariables false
set_option linter.unusedSimpArgs false
open Go.RowKit

def WQ (P : Program) (ops : Array Oper) (C : World → Prop) (K : Regs → Prop) : List Oper → Regs → Prop
  | [], r => K r
  | o :: os, r => bif wantR o ops r then ∃ v, (∀ w, C w → Oper.quietUpon P C w v ((execOp (ev r) o).run P w)) ∧ WQ P ops C K os (updO r o.dst v) else WQ P ops C K os (updO r o.dst undef)

theorem WQ.sound {P : Program} {n : Nat} {ops : Array Oper} {C : World → Prop} {K : Regs → Prop} (hd : ops.all (fun o => dstOK n o.dst) = true) :
    ∀ (os : List Oper) (_ : ∀ o ∈ os, o ∈ ops) (r : Regs) (a : Act), RA n a r → WQ P ops C K os r → wpQuiet P ops C (fun a' => ∃ r', RA n a' r' ∧ K r') os a := by
  intro os
  induction os with
  | nil => intro _ r a ha h; exact ⟨r, ha, h⟩
  | cons o os ih =>
    intro hm r a ha h
    have hdo : dstOK n o.dst = true := Array.all_eq_true_iff_forall_mem.1 hd o (hm o (List.mem_cons_self ..))
    have hih := ih (fun o h => hm o (List.mem_cons_of_mem _ h))
    unfold wpQuiet
    rw [want_eq ha ops hd]
    unfold WQ at h
    cases hw : wantR o ops r with
    | true =>
      rw [hw] at h
      obtain ⟨v, h1, h2⟩ := h
      simp only [if_true]
      exact ⟨v, fun w hC => by unfold Oper.quietAt; rw [ha.ev]; exact h1 w hC, hih _ _ (ha.put hdo v) h2⟩
    | false =>
      rw [hw] at h
      simp only [Bool.false_eq_true, if_false]
      exact hih _ _ (ha.put hdo undef) h

/-- A region that draws its order, in which nothing that is owned or known is changed. -/
theorem WR.regionQ {P : Program} {n : Nat} {id : Nat} {ops : Array Oper} {Q : Exit → Regs → World → Prop} {r : Regs} {w : World} {R : Kn} {L : List HP} (hm : P.follows .mixedOrders = true) (s : St w R L)
    (hB : Region.lexB .any ops = true) (hd' : ops.toList.all (fun o => dstOK n o.dst) = true) (h : WQ P ops (fun w => St w R L) (fun r' => ∀ w', St w' R L → Q .normal r' w') ops.toList r) : WR P n (.region id ops true) Q r w := by
  have hd : ops.all (fun o => dstOK n o.dst) = true := by rwa [← Array.all_toList]
  intro a ha
  refine wp_region_quiet (C := fun w => St w R L) hm hB (s.drawn _) ?_
  have h1 := WQ.sound hd ops.toList (fun o h => by simpa using h) r a ha h
  have mono : ∀ (os : List Oper) (a : Act) (A B : Act → Prop), (∀ a, A a → B a) → wpQuiet P ops (fun w => St w R L) A os a → wpQuiet P ops (fun w => St w R L) B os a := by
    intro os
    induction os with
    | nil => intro a A B hab h; exact hab _ h
    | cons o os ih =>
      intro a A B hab h
      unfold wpQuiet at h ⊢
      split
      · rename_i hw
        rw [if_pos hw] at h
        obtain ⟨v, h1, h2⟩ := h
        exact ⟨v, h1, ih _ A B hab h2⟩
      · rename_i hw
        rw [if_neg hw] at h
        exact ih _ A B hab h
  exact mono _ _ _ _ (fun a' ⟨r', h1, h2⟩ w' hw' => ⟨r', h1, h2 w' hw'⟩) h1

section
variable {P : Program} {ops : Array Oper} {C : World → Prop} {R : Kn} {K : Regs → Prop} {r : Regs} {os : List Oper}
  {d : Nat} {ty : TypeId} {pos : String} {aft : Array Edge} {g : Option (Nat × Bool)}
theorem WQ.done (h : K r) : WQ P ops C K [] r := h
theorem WQ.off {o : Oper} (hw : wantR o ops r = false) (h : WQ P ops C K os (updO r o.dst undef)) : WQ P ops C K (o :: os) r := by
  unfold WQ; rw [hw]; exact h
theorem Q.val {o : Oper} {v : Value} (hw : wantR o ops r = true) (hr : ∀ w, C w → (execOp (ev r) o).run P w = .ok (.value v) w) (h : WQ P ops C K os (updO r o.dst v)) : WQ P ops C K (o :: os) r := by
  unfold WQ; rw [hw]
  exact ⟨v, fun w hC => by rw [hr w hC]; exact ⟨rfl, rfl⟩, h⟩

theorem Q.move {x : Operand} {v : Value} (hx : ev r x = v) (hw : wantR ⟨some d, .move x, ty, pos, aft, g⟩ ops r = true) (h : WQ P ops C K os (upd r d v)) :
    WQ P ops C K (⟨some d, .move x, ty, pos, aft, g⟩ :: os) r := by subst hx; exact Q.val hw (fun w hC => rfl) h
theorem Q.assign {x : Operand} {v : Value} (hx : ev r x = v) (hw : wantR ⟨some d, .assign x, ty, pos, aft, g⟩ ops r = true) (h : WQ P ops C K os (upd r d v)) :
    WQ P ops C K (⟨some d, .assign x, ty, pos, aft, g⟩ :: os) r := by subst hx; exact Q.val hw (fun w hC => rfl) h
theorem Q.moveT {t : Nat} (hw : wantR ⟨some d, .move (.tmp t), ty, pos, aft, g⟩ ops r = true) (h : WQ P ops C K os (cp r d t)) :
    WQ P ops C K (⟨some d, .move (.tmp t), ty, pos, aft, g⟩ :: os) r := Q.val hw (fun w hC => rfl) h
theorem Q.assignT {t : Nat} (hw : wantR ⟨some d, .assign (.tmp t), ty, pos, aft, g⟩ ops r = true) (h : WQ P ops C K os (cp r d t)) :
    WQ P ops C K (⟨some d, .assign (.tmp t), ty, pos, aft, g⟩ :: os) r := Q.val hw (fun w hC => rfl) h
theorem Q.moveC {v : Value} (hw : wantR ⟨some d, .move (.const v), ty, pos, aft, g⟩ ops r = true) (h : WQ P ops C K os (upd r d v)) :
    WQ P ops C K (⟨some d, .move (.const v), ty, pos, aft, g⟩ :: os) r := Q.val hw (fun w hC => rfl) h
theorem Q.assignC {v : Value} (hw : wantR ⟨some d, .assign (.const v), ty, pos, aft, g⟩ ops r = true) (h : WQ P ops C K os (upd r d v)) :
    WQ P ops C K (⟨some d, .assign (.const v), ty, pos, aft, g⟩ :: os) r := Q.val hw (fun w hC => rfl) h
theorem Q.pickTC {c y : Operand} {v : Value} (hc : ev r c = .bool true) (hw : wantR ⟨some d, .pick c (.const v) y, ty, pos, aft, g⟩ ops r = true) (h : WQ P ops C K os (upd r d v)) :
    WQ P ops C K (⟨some d, .pick c (.const v) y, ty, pos, aft, g⟩ :: os) r := by
  refine Q.val hw (fun w hC => ?_) h
  simp only [execOp, hc, asBool, pure_bind]
  rfl
theorem Q.pickFC {c x : Operand} {v : Value} (hc : ev r c = .bool false) (hw : wantR ⟨some d, .pick c x (.const v), ty, pos, aft, g⟩ ops r = true) (h : WQ P ops C K os (upd r d v)) :
    WQ P ops C K (⟨some d, .pick c x (.const v), ty, pos, aft, g⟩ :: os) r := by
  refine Q.val hw (fun w hC => ?_) h
  simp only [execOp, hc, asBool, pure_bind]
  rfl
theorem Q.pickT {c y : Operand} {t : Nat} (hc : ev r c = .bool true) (hw : wantR ⟨some d, .pick c (.tmp t) y, ty, pos, aft, g⟩ ops r = true) (h : WQ P ops C K os (cp r d t)) :
    WQ P ops C K (⟨some d, .pick c (.tmp t) y, ty, pos, aft, g⟩ :: os) r := by
  refine Q.val hw (fun w hC => ?_) h
  simp only [execOp, hc, asBool, pure_bind]
  rfl
theorem Q.pickF {c x : Operand} {t : Nat} (hc : ev r c = .bool false) (hw : wantR ⟨some d, .pick c x (.tmp t), ty, pos, aft, g⟩ ops r = true) (h : WQ P ops C K os (cp r d t)) :
    WQ P ops C K (⟨some d, .pick c x (.tmp t), ty, pos, aft, g⟩ :: os) r := by
  refine Q.val hw (fun w hC => ?_) h
  simp only [execOp, hc, asBool, pure_bind]
  rfl
theorem Q.assignNone {x : Operand} (hw : wantR ⟨none, .assign x, ty, pos, aft, g⟩ ops r = true) (h : WQ P ops C K os r) :
    WQ P ops C K (⟨none, .assign x, ty, pos, aft, g⟩ :: os) r := Q.val hw (fun w hC => rfl) h
theorem Q.moveNone {x : Operand} (hw : wantR ⟨none, .move x, ty, pos, aft, g⟩ ops r = true) (h : WQ P ops C K os r) :
    WQ P ops C K (⟨none, .move x, ty, pos, aft, g⟩ :: os) r := Q.val hw (fun w hC => rfl) h
theorem Q.off {o : Op} (hw : wantR ⟨some d, o, ty, pos, aft, g⟩ ops r = false) (h : WQ P ops C K os (upd r d undef)) :
    WQ P ops C K (⟨some d, o, ty, pos, aft, g⟩ :: os) r := WQ.off hw h
theorem Q.pick {c x y : Operand} {b : Bool} {v : Value} (hc : ev r c = .bool b) (hv : (bif b then ev r x else ev r y) = v)
    (hw : wantR ⟨some d, .pick c x y, ty, pos, aft, g⟩ ops r = true) (h : WQ P ops C K os (upd r d v)) :
    WQ P ops C K (⟨some d, .pick c x y, ty, pos, aft, g⟩ :: os) r := by
  subst hv
  refine Q.val hw (fun w hC => ?_) h
  simp only [execOp, hc, asBool, pure_bind]
  cases b <;> rfl

theorem Q.binI {op : BinOp} {t t' : TypeId} {x y : Operand} {k : IntKind} {m n : Int} {v : Value} (hx : ev r x = .int k m) (hy : ev r y = .int k n)
    (hb : ∀ w, (binOp op t (.int k m) (.int k n)).run P w = .ok v w)
    (hw : wantR ⟨some d, .binOp op t x y t', ty, pos, aft, g⟩ ops r = true) (h : WQ P ops C K os (upd r d v)) :
    WQ P ops C K (⟨some d, .binOp op t x y t', ty, pos, aft, g⟩ :: os) r := by
  refine Q.val hw (fun w hC => ?_) h
  simp only [execOp, hx, hy]
  have : eqGuard op t x y (.int k m) (.int k n) = pure () := by unfold eqGuard; split <;> rfl
  rw [this]
  simp only [pure_bind, Sem.run_bind, hb w, Result.andThen_ok]
  rfl

section ints
variable {t t' : TypeId} {x y : Operand} {k : IntKind} {m n : Int}
theorem Q.add (hx : ev r x = .int k m) (hy : ev r y = .int k n) (hw : wantR ⟨some d, .binOp .add t x y t', ty, pos, aft, g⟩ ops r = true)
    (h : WQ P ops C K os (upd r d (.int k (k.wrap (m + n))))) : WQ P ops C K (⟨some d, .binOp .add t x y t', ty, pos, aft, g⟩ :: os) r :=
  Q.binI hx hy (fun w => by simp [binOp, Op.intArith, Sem.run_pure]) hw h
theorem Q.sub (hx : ev r x = .int k m) (hy : ev r y = .int k n) (hw : wantR ⟨some d, .binOp .sub t x y t', ty, pos, aft, g⟩ ops r = true)
    (h : WQ P ops C K os (upd r d (.int k (k.wrap (m - n))))) : WQ P ops C K (⟨some d, .binOp .sub t x y t', ty, pos, aft, g⟩ :: os) r :=
  Q.binI hx hy (fun w => by simp [binOp, Op.intArith, Sem.run_pure]) hw h
theorem Q.mul (hx : ev r x = .int k m) (hy : ev r y = .int k n) (hw : wantR ⟨some d, .binOp .mul t x y t', ty, pos, aft, g⟩ ops r = true)
    (h : WQ P ops C K os (upd r d (.int k (k.wrap (m * n))))) : WQ P ops C K (⟨some d, .binOp .mul t x y t', ty, pos, aft, g⟩ :: os) r :=
  Q.binI hx hy (fun w => by simp [binOp, Op.intArith, Sem.run_pure]) hw h
theorem Q.addN (hx : ev r x = .int .i64 m) (hy : ev r y = .int .i64 n) (hw : wantR ⟨some d, .binOp .add t x y t', ty, pos, aft, g⟩ ops r = true)
    (hb : -9223372036854775808 ≤ m + n ∧ m + n ≤ 9223372036854775807)
    (h : WQ P ops C K os (upd r d (.int .i64 (m + n)))) : WQ P ops C K (⟨some d, .binOp .add t x y t', ty, pos, aft, g⟩ :: os) r :=
  Q.add hx hy hw (by rw [wrap_i64 hb.1 hb.2]; exact h)
theorem Q.subN (hx : ev r x = .int .i64 m) (hy : ev r y = .int .i64 n) (hw : wantR ⟨some d, .binOp .sub t x y t', ty, pos, aft, g⟩ ops r = true)
    (hb : -9223372036854775808 ≤ m - n ∧ m - n ≤ 9223372036854775807)
    (h : WQ P ops C K os (upd r d (.int .i64 (m - n)))) : WQ P ops C K (⟨some d, .binOp .sub t x y t', ty, pos, aft, g⟩ :: os) r :=
  Q.sub hx hy hw (by rw [wrap_i64 hb.1 hb.2]; exact h)
theorem Q.mulN (hx : ev r x = .int .i64 m) (hy : ev r y = .int .i64 n) (hw : wantR ⟨some d, .binOp .mul t x y t', ty, pos, aft, g⟩ ops r = true)
    (hb : -9223372036854775808 ≤ m * n ∧ m * n ≤ 9223372036854775807)
    (h : WQ P ops C K os (upd r d (.int .i64 (m * n)))) : WQ P ops C K (⟨some d, .binOp .mul t x y t', ty, pos, aft, g⟩ :: os) r :=
  Q.mul hx hy hw (by rw [wrap_i64 hb.1 hb.2]; exact h)
theorem Q.quo (hx : ev r x = .int k m) (hy : ev r y = .int k n) (hn : n ≠ 0) (hw : wantR ⟨some d, .binOp .quo t x y t', ty, pos, aft, g⟩ ops r = true)
    (h : WQ P ops C K os (upd r d (.int k (k.wrap (m.tdiv n))))) : WQ P ops C K (⟨some d, .binOp .quo t x y t', ty, pos, aft, g⟩ :: os) r :=
  Q.binI hx hy (fun w => by simp [binOp, Op.intDiv, Sem.run_pure, hn]) hw h
theorem Q.rem (hx : ev r x = .int k m) (hy : ev r y = .int k n) (hn : n ≠ 0) (hw : wantR ⟨some d, .binOp .rem t x y t', ty, pos, aft, g⟩ ops r = true)
    (h : WQ P ops C K os (upd r d (.int k (m.tmod n)))) : WQ P ops C K (⟨some d, .binOp .rem t x y t', ty, pos, aft, g⟩ :: os) r :=
  Q.binI hx hy (fun w => by simp [binOp, Op.intDiv, Sem.run_pure, hn]) hw h
theorem Q.quoU (hx : ev r x = .int .u64 m) (hy : ev r y = .int .u64 n) (hm : 0 ≤ m ∧ m ≤ 18446744073709551615) (hn : 0 < n) (hw : wantR ⟨some d, .binOp .quo t x y t', ty, pos, aft, g⟩ ops r = true)
    (h : WQ P ops C K os (upd r d (.int .u64 (m / n)))) : WQ P ops C K (⟨some d, .binOp .quo t x y t', ty, pos, aft, g⟩ :: os) r := by
  refine Q.quo hx hy (by omega) hw ?_
  rw [Int.tdiv_eq_ediv_of_nonneg hm.1, wrap_u64 (Int.ediv_nonneg hm.1 (by omega)) (Int.le_trans (Int.ediv_le_self _ hm.1) hm.2)]
  exact h
theorem Q.addU (hx : ev r x = .int .u64 m) (hy : ev r y = .int .u64 n) (hw : wantR ⟨some d, .binOp .add t x y t', ty, pos, aft, g⟩ ops r = true)
    (hb : 0 ≤ m + n ∧ m + n ≤ 18446744073709551615)
    (h : WQ P ops C K os (upd r d (.int .u64 (m + n)))) : WQ P ops C K (⟨some d, .binOp .add t x y t', ty, pos, aft, g⟩ :: os) r :=
  Q.add hx hy hw (by rw [wrap_u64 hb.1 hb.2]; exact h)
theorem Q.subU (hx : ev r x = .int .u64 m) (hy : ev r y = .int .u64 n) (hw : wantR ⟨some d, .binOp .sub t x y t', ty, pos, aft, g⟩ ops r = true)
    (hb : 0 ≤ m - n ∧ m - n ≤ 18446744073709551615)
    (h : WQ P ops C K os (upd r d (.int .u64 (m - n)))) : WQ P ops C K (⟨some d, .binOp .sub t x y t', ty, pos, aft, g⟩ :: os) r :=
  Q.sub hx hy hw (by rw [wrap_u64 hb.1 hb.2]; exact h)
theorem Q.mulU (hx : ev r x = .int .u64 m) (hy : ev r y = .int .u64 n) (hw : wantR ⟨some d, .binOp .mul t x y t', ty, pos, aft, g⟩ ops r = true)
    (hb : 0 ≤ m * n ∧ m * n ≤ 18446744073709551615)
    (h : WQ P ops C K os (upd r d (.int .u64 (m * n)))) : WQ P ops C K (⟨some d, .binOp .mul t x y t', ty, pos, aft, g⟩ :: os) r :=
  Q.mul hx hy hw (by rw [wrap_u64 hb.1 hb.2]; exact h)
theorem Q.quoK (hx : ev r x = .int k m) (hy : ev r y = .int k n) (hm : 0 ≤ m) (hn : 0 < n) (hb : k.wrap (m / n) = m / n) (hw : wantR ⟨some d, .binOp .quo t x y t', ty, pos, aft, g⟩ ops r = true)
    (h : WQ P ops C K os (upd r d (.int k (m / n)))) : WQ P ops C K (⟨some d, .binOp .quo t x y t', ty, pos, aft, g⟩ :: os) r := by
  refine Q.quo hx hy (by omega) hw ?_
  rw [Int.tdiv_eq_ediv_of_nonneg hm, hb]
  exact h
theorem Q.quoN (hx : ev r x = .int .i64 m) (hy : ev r y = .int .i64 n) (hm : 0 ≤ m ∧ m ≤ 9223372036854775807) (hn : 0 < n) (hw : wantR ⟨some d, .binOp .quo t x y t', ty, pos, aft, g⟩ ops r = true)
    (h : WQ P ops C K os (upd r d (.int .i64 (m / n)))) : WQ P ops C K (⟨some d, .binOp .quo t x y t', ty, pos, aft, g⟩ :: os) r := by
  refine Q.quo hx hy (by omega) hw ?_
  have h0 := Int.ediv_nonneg hm.1 (Int.le_of_lt hn)
  rw [Int.tdiv_eq_ediv_of_nonneg hm.1, wrap_i64 (by omega) (Int.le_trans (Int.ediv_le_self _ hm.1) hm.2)]
  exact h
theorem Q.remN (hx : ev r x = .int k m) (hy : ev r y = .int k n) (hm : 0 ≤ m) (hn : 0 < n) (hw : wantR ⟨some d, .binOp .rem t x y t', ty, pos, aft, g⟩ ops r = true)
    (h : WQ P ops C K os (upd r d (.int k (m % n)))) : WQ P ops C K (⟨some d, .binOp .rem t x y t', ty, pos, aft, g⟩ :: os) r := by
  refine Q.rem hx hy (by omega) hw ?_
  rw [Int.tmod_eq_emod_of_nonneg hm]
  exact h
theorem Q.and (hx : ev r x = .int k m) (hy : ev r y = .int k n) (hw : wantR ⟨some d, .binOp .and t x y t', ty, pos, aft, g⟩ ops r = true)
    (h : WQ P ops C K os (upd r d (.int k (bits .and k m n)))) : WQ P ops C K (⟨some d, .binOp .and t x y t', ty, pos, aft, g⟩ :: os) r :=
  Q.binI hx hy (fun w => by simp [binOp, Op.intBits, Sem.run_pure, bits]) hw h
theorem Q.or (hx : ev r x = .int k m) (hy : ev r y = .int k n) (hw : wantR ⟨some d, .binOp .or t x y t', ty, pos, aft, g⟩ ops r = true)
    (h : WQ P ops C K os (upd r d (.int k (bits .or k m n)))) : WQ P ops C K (⟨some d, .binOp .or t x y t', ty, pos, aft, g⟩ :: os) r :=
  Q.binI hx hy (fun w => by simp [binOp, Op.intBits, Sem.run_pure, bits]) hw h
theorem Q.xor (hx : ev r x = .int k m) (hy : ev r y = .int k n) (hw : wantR ⟨some d, .binOp .xor t x y t', ty, pos, aft, g⟩ ops r = true)
    (h : WQ P ops C K os (upd r d (.int k (bits .xor k m n)))) : WQ P ops C K (⟨some d, .binOp .xor t x y t', ty, pos, aft, g⟩ :: os) r :=
  Q.binI hx hy (fun w => by simp [binOp, Op.intBits, Sem.run_pure, bits]) hw h
theorem Q.andNot (hx : ev r x = .int k m) (hy : ev r y = .int k n) (hw : wantR ⟨some d, .binOp .andNot t x y t', ty, pos, aft, g⟩ ops r = true)
    (h : WQ P ops C K os (upd r d (.int k (bits .andNot k m n)))) : WQ P ops C K (⟨some d, .binOp .andNot t x y t', ty, pos, aft, g⟩ :: os) r :=
  Q.binI hx hy (fun w => by simp [binOp, Op.intBits, Sem.run_pure, bits]) hw h
theorem Q.lss (hx : ev r x = .int k m) (hy : ev r y = .int k n) (hw : wantR ⟨some d, .binOp .lss t x y t', ty, pos, aft, g⟩ ops r = true)
    (h : WQ P ops C K os (upd r d (.bool (decide (m < n))))) : WQ P ops C K (⟨some d, .binOp .lss t x y t', ty, pos, aft, g⟩ :: os) r :=
  Q.binI hx hy (fun w => by simp [binOp, Op.intCmp, Sem.run_pure]) hw h
theorem Q.leq (hx : ev r x = .int k m) (hy : ev r y = .int k n) (hw : wantR ⟨some d, .binOp .leq t x y t', ty, pos, aft, g⟩ ops r = true)
    (h : WQ P ops C K os (upd r d (.bool (decide (m ≤ n))))) : WQ P ops C K (⟨some d, .binOp .leq t x y t', ty, pos, aft, g⟩ :: os) r :=
  Q.binI hx hy (fun w => by simp [binOp, Op.intCmp, Sem.run_pure]) hw h
theorem Q.gtr (hx : ev r x = .int k m) (hy : ev r y = .int k n) (hw : wantR ⟨some d, .binOp .gtr t x y t', ty, pos, aft, g⟩ ops r = true)
    (h : WQ P ops C K os (upd r d (.bool (decide (n < m))))) : WQ P ops C K (⟨some d, .binOp .gtr t x y t', ty, pos, aft, g⟩ :: os) r :=
  Q.binI hx hy (fun w => by simp [binOp, Op.intCmp, Sem.run_pure]) hw h
theorem Q.geq (hx : ev r x = .int k m) (hy : ev r y = .int k n) (hw : wantR ⟨some d, .binOp .geq t x y t', ty, pos, aft, g⟩ ops r = true)
    (h : WQ P ops C K os (upd r d (.bool (decide (n ≤ m))))) : WQ P ops C K (⟨some d, .binOp .geq t x y t', ty, pos, aft, g⟩ :: os) r :=
  Q.binI hx hy (fun w => by simp [binOp, Op.intCmp, Sem.run_pure]) hw h
theorem Q.eql (hx : ev r x = .int k m) (hy : ev r y = .int k n) (hw : wantR ⟨some d, .binOp .eql t x y t', ty, pos, aft, g⟩ ops r = true)
    (h : WQ P ops C K os (upd r d (.bool (decide (m = n))))) : WQ P ops C K (⟨some d, .binOp .eql t x y t', ty, pos, aft, g⟩ :: os) r :=
  Q.binI hx hy (fun w => by simp [binOp, Op.intCmp, Sem.run_pure]; rfl) hw h
theorem Q.neq (hx : ev r x = .int k m) (hy : ev r y = .int k n) (hw : wantR ⟨some d, .binOp .neq t x y t', ty, pos, aft, g⟩ ops r = true)
    (h : WQ P ops C K os (upd r d (.bool (decide (m ≠ n))))) : WQ P ops C K (⟨some d, .binOp .neq t x y t', ty, pos, aft, g⟩ :: os) r :=
  Q.binI hx hy (fun w => by simp [binOp, Op.intCmp, Sem.run_pure, bne]; rfl) hw h
/-- A shift by a number that is known not to be below 0. -/
theorem Q.shl {k' : IntKind} (hx : ev r x = .int k m) (hy : ev r y = .int k' n) (hn : 0 ≤ n) (hw : wantR ⟨some d, .binOp .shl t x y t', ty, pos, aft, g⟩ ops r = true)
    (h : WQ P ops C K os (upd r d (.int k (k.wrap (m * 2 ^ (min n.toNat k.bits)))))) : WQ P ops C K (⟨some d, .binOp .shl t x y t', ty, pos, aft, g⟩ :: os) r := by
  refine Q.val hw (fun w hC => ?_) h
  have : eqGuard .shl t x y (.int k m) (.int k' n) = pure () := by unfold eqGuard; rfl
  simp only [execOp, hx, hy, this, pure_bind, binOp, Op.shift, if_neg (Int.not_lt.2 hn), Sem.run_pure]
theorem Q.shr {k' : IntKind} (hx : ev r x = .int k m) (hy : ev r y = .int k' n) (hn : 0 ≤ n) (hw : wantR ⟨some d, .binOp .shr t x y t', ty, pos, aft, g⟩ ops r = true)
    (h : WQ P ops C K os (upd r d (.int k (m.fdiv (2 ^ (min n.toNat k.bits)))))) : WQ P ops C K (⟨some d, .binOp .shr t x y t', ty, pos, aft, g⟩ :: os) r := by
  refine Q.val hw (fun w hC => ?_) h
  have : eqGuard .shr t x y (.int k m) (.int k' n) = pure () := by unfold eqGuard; rfl
  simp only [execOp, hx, hy, this, pure_bind, binOp, Op.shift, if_neg (Int.not_lt.2 hn), Sem.run_pure]
/-- A shift by a constant: the power written out by whoever uses it (hq by rfl). -/
theorem Q.shrC {k' : IntKind} {q : Int} (hx : ev r x = .int k m) (hy : ev r y = .int k' n) (hn : decide (0 ≤ n) = true) (hq : (2 : Int) ^ (min n.toNat k.bits) = q) (hw : wantR ⟨some d, .binOp .shr t x y t', ty, pos, aft, g⟩ ops r = true)
    (hq0 : decide (0 < q) = true) (h : WQ P ops C K os (upd r d (.int k (m / q)))) : WQ P ops C K (⟨some d, .binOp .shr t x y t', ty, pos, aft, g⟩ :: os) r := by
  have hq1 : 0 < q := by simpa using hq0
  refine Q.shr hx hy (by simpa using hn) hw ?_
  rw [hq, Int.fdiv_eq_ediv_of_nonneg _ (by omega)]
  exact h
theorem Q.shlC {k' : IntKind} {q : Int} (hx : ev r x = .int k m) (hy : ev r y = .int k' n) (hn : decide (0 ≤ n) = true) (hq : (2 : Int) ^ (min n.toNat k.bits) = q) (hw : wantR ⟨some d, .binOp .shl t x y t', ty, pos, aft, g⟩ ops r = true)
    (h : WQ P ops C K os (upd r d (.int k (k.wrap (m * q))))) : WQ P ops C K (⟨some d, .binOp .shl t x y t', ty, pos, aft, g⟩ :: os) r := by
  refine Q.shl hx hy (by simpa using hn) hw ?_
  rw [hq]
  exact h
theorem Q.neg (hx : ev r x = .int k m) (hw : wantR ⟨some d, .unOp .neg t x, ty, pos, aft, g⟩ ops r = true)
    (h : WQ P ops C K os (upd r d (.int k (k.wrap (0 - m))))) : WQ P ops C K (⟨some d, .unOp .neg t x, ty, pos, aft, g⟩ :: os) r :=
  Q.val hw (fun w hC => (by simp [execOp, hx, Op.unary, Op.intArith, Sem.run_pure])) h
theorem Q.negN (hx : ev r x = .int .i64 m) (hw : wantR ⟨some d, .unOp .neg t x, ty, pos, aft, g⟩ ops r = true) (hb : -9223372036854775807 ≤ m ∧ m ≤ 9223372036854775807)
    (h : WQ P ops C K os (upd r d (.int .i64 (-m)))) : WQ P ops C K (⟨some d, .unOp .neg t x, ty, pos, aft, g⟩ :: os) r :=
  Q.neg hx hw (by rw [wrap_i64 (by omega) (by omega), Int.zero_sub]; exact h)
theorem Q.compl (hx : ev r x = .int k m) (hw : wantR ⟨some d, .unOp .xor t x, ty, pos, aft, g⟩ ops r = true)
    (h : WQ P ops C K os (upd r d (.int k (bits .xor k (if k.signed then -1 else k.max) m)))) : WQ P ops C K (⟨some d, .unOp .xor t x, ty, pos, aft, g⟩ :: os) r :=
  Q.val hw (fun w hC => (by simp [execOp, hx, Op.unary, Op.intBits, Sem.run_pure, bits])) h
theorem Q.not {b : Bool} (hx : ev r x = .bool b) (hw : wantR ⟨some d, .unOp .not t x, ty, pos, aft, g⟩ ops r = true)
    (h : WQ P ops C K os (upd r d (.bool (!b)))) : WQ P ops C K (⟨some d, .unOp .not t x, ty, pos, aft, g⟩ :: os) r :=
  Q.val hw (fun w hC => (by simp [execOp, hx, Op.unary, Sem.run_pure])) h
/-- An integer of another kind. -/
theorem Q.conv {sd : TypeDesc} {k' : IntKind} (hs : P.underlying t = some sd) (hd : P.underlying t' = some (.int k')) (hx : ev r x = .int k m) (hw : wantR ⟨some d, .convert t t' x, ty, pos, aft, g⟩ ops r = true)
    (h : WQ P ops C K os (upd r d (.int k' (k'.wrap m)))) : WQ P ops C K (⟨some d, .convert t t' x, ty, pos, aft, g⟩ :: os) r :=
  Q.val hw (fun w hC => (by cases sd <;> simp [execOp, hx, convert, Sem.run_bind, run_underlying hs, run_underlying hd, Conv.intToInt, Sem.run_pure])) h
theorem Q.convN {sd : TypeDesc} {k' : IntKind} (hs : P.underlying t = some sd) (hd : P.underlying t' = some (.int k')) (hx : ev r x = .int k m) (hw : wantR ⟨some d, .convert t t' x, ty, pos, aft, g⟩ ops r = true)
    (hb : k'.wrap m = m) (h : WQ P ops C K os (upd r d (.int k' m))) : WQ P ops C K (⟨some d, .convert t t' x, ty, pos, aft, g⟩ :: os) r :=
  Q.conv hs hd hx hw (by rw [hb]; exact h)
/-- '==' of two bools. -/
theorem Q.eqlB {b c : Bool} (hu : P.underlying t = some .bool) (hx : ev r x = .bool b) (hy : ev r y = .bool c) (hw : wantR ⟨some d, .binOp .eql t x y t', ty, pos, aft, g⟩ ops r = true)
    (h : WQ P ops C K os (upd r d (.bool (b == c)))) : WQ P ops C K (⟨some d, .binOp .eql t x y t', ty, pos, aft, g⟩ :: os) r := by
  refine Q.val hw (fun w hC => ?_) h
  have : eqGuard .eql t x y (.bool b) (.bool c) = pure () := by unfold eqGuard; rfl
  simp only [execOp, hx, hy, this, pure_bind, binOp, Op.equal, Op.maxDepth, Sem.run_bind, run_equalIn_bool' w 9999 t b c hu, Result.andThen_ok, Sem.run_pure]
theorem Q.neqB {b c : Bool} (hu : P.underlying t = some .bool) (hx : ev r x = .bool b) (hy : ev r y = .bool c) (hw : wantR ⟨some d, .binOp .neq t x y t', ty, pos, aft, g⟩ ops r = true)
    (h : WQ P ops C K os (upd r d (.bool (!(b == c))))) : WQ P ops C K (⟨some d, .binOp .neq t x y t', ty, pos, aft, g⟩ :: os) r := by
  refine Q.val hw (fun w hC => ?_) h
  have : eqGuard .neq t x y (.bool b) (.bool c) = pure () := by unfold eqGuard; rfl
  simp only [execOp, hx, hy, this, pure_bind, binOp, Op.equal, Op.maxDepth, Sem.run_bind, run_equalIn_bool' w 9999 t b c hu, Result.andThen_ok, Sem.run_pure]
/-- '==' of two structs or arrays of which no part is an interface: as the kernel reckons it (he). -/
theorem Q.eqlA {xs ys : Array Value} {b : Bool} (hx : ev r x = .agg xs) (hy : ev r y = .agg ys) (hm : P.eqGuardType P.depth t = false)
    (he : ∀ w, (Op.equalIn 10000 t (.agg xs) (.agg ys)).run P w = .ok b w) (hw : wantR ⟨some d, .binOp .eql t x y t', ty, pos, aft, g⟩ ops r = true)
    (h : WQ P ops C K os (upd r d (.bool b))) : WQ P ops C K (⟨some d, .binOp .eql t x y t', ty, pos, aft, g⟩ :: os) r := by
  refine Q.val hw (fun w hC => ?_) h
  simp only [execOp, hx, hy, Sem.run_bind, run_eqGuard_agg w .eql t x y xs ys hm, Result.andThen_ok, run_eql_struct, he w, Sem.run_pure]
theorem Q.neqA {xs ys : Array Value} {b : Bool} (hx : ev r x = .agg xs) (hy : ev r y = .agg ys) (hm : P.eqGuardType P.depth t = false)
    (he : ∀ w, (Op.equalIn 10000 t (.agg xs) (.agg ys)).run P w = .ok b w) (hw : wantR ⟨some d, .binOp .neq t x y t', ty, pos, aft, g⟩ ops r = true)
    (h : WQ P ops C K os (upd r d (.bool (!b)))) : WQ P ops C K (⟨some d, .binOp .neq t x y t', ty, pos, aft, g⟩ :: os) r := by
  refine Q.val hw (fun w hC => ?_) h
  simp only [execOp, hx, hy, Sem.run_bind, run_eqGuard_agg w .neq t x y xs ys hm, Result.andThen_ok, run_neq_struct, he w, Sem.run_pure]
end ints
/-- A test whose outcome is open: both ways. -/
theorem Q.splitD {p : Prop} [Decidable p] (hb : r d = .bool (decide p)) (ht : p → WQ P ops C K os (upd r d (.bool true))) (hf : ¬ p → WQ P ops C K os (upd r d (.bool false))) : WQ P ops C K os r := by
  by_cases h : p
  · have := ht h; rwa [upd_self (by rw [hb, decide_eq_true h])] at this
  · have := hf h; rwa [upd_self (by rw [hb, decide_eq_false h])] at this
theorem Q.splitB {b : Bool} (hb : r d = .bool b) (ht : b = true → WQ P ops C K os (upd r d (.bool true))) (hf : b = false → WQ P ops C K os (upd r d (.bool false))) : WQ P ops C K os r := by
  cases b with
  | true => have := ht rfl; rwa [upd_self hb] at this
  | false => have := hf rfl; rwa [upd_self hb] at this
theorem Q.isTD {p : Prop} [Decidable p] (hb : r d = .bool (decide p)) (hp : p) (h : WQ P ops C K os (upd r d (.bool true))) : WQ P ops C K os r := by
  rwa [upd_self (by rw [hb, decide_eq_true hp])] at h
theorem Q.isFD {p : Prop} [Decidable p] (hb : r d = .bool (decide p)) (hp : ¬ p) (h : WQ P ops C K os (upd r d (.bool false))) : WQ P ops C K os r := by
  rwa [upd_self (by rw [hb, decide_eq_false hp])] at h
theorem Q.isB {b c : Bool} (hb : r d = .bool b) (hp : b = c) (h : WQ P ops C K os (upd r d (.bool c))) : WQ P ops C K os r := by
  rwa [upd_self (by rw [hb, hp])] at h
/-- A register's value, otherwise written. -/
theorem Q.as {v : Value} (hb : r d = v) {v' : Value} (hv : v = v') (h : WQ P ops C K os (upd r d v')) : WQ P ops C K os r := by
  rwa [upd_self (by rw [hb, hv])] at h

theorem Q.fieldAddr {t : TypeId} {fs : Array Field} {x : Operand} {f : Nat} {a : Addr} {fd : Field} {z : Value} {n b : Nat} (ht : P.underlying t = some (.struct fs)) (hf : fs[f]? = some fd) (hz : TI P fd.type z n b) (hn : n ≠ 0)
    (hx : ev r x = .pointer (some a)) (hw : wantR ⟨some d, .fieldAddr t x f, ty, pos, aft, g⟩ ops r = true)
    (h : WQ P ops C K os (upd r d (.pointer (some (a.add fd.offset))))) : WQ P ops C K (⟨some d, .fieldAddr t x f, ty, pos, aft, g⟩ :: os) r := by
  refine Q.val hw (fun w hC => ?_) h
  simp only [execOp, hx, Instr.fieldAt, Sem.run_bind, run_underlying ht, Result.andThen_ok, hf, Instr.sureAddr, pure_bind, fieldPlace, run_size hz, if_neg hn, Sem.run_pure]
theorem Q.fieldB {t : TypeId} {fs : Array Field} {x : Operand} {f bk off off' : Nat} {fd : Field} {z : Value} {n b : Nat} (ht : P.underlying t = some (.struct fs)) (hf : fs[f]? = some fd) (hz : TI P fd.type z n b) (hn : Nat.blt 0 n = true)
    (hx : ev r x = .pointer (some ⟨bk, off, none⟩)) (ho : off + fd.offset = off') (hw : wantR ⟨some d, .fieldAddr t x f, ty, pos, aft, g⟩ ops r = true)
    (h : WQ P ops C K os (upd r d (.pointer (some ⟨bk, off', none⟩)))) : WQ P ops C K (⟨some d, .fieldAddr t x f, ty, pos, aft, g⟩ :: os) r := by
  refine Q.fieldAddr ht hf hz (Nat.pos_iff_ne_zero.1 (by simpa using hn)) hx hw ?_
  rw [Addr.add_none, ho]
  exact h
theorem Q.indexAddr {t e : TypeId} {x y : Operand} {a : Addr} {len cap : Nat} {i : Int} {k : IntKind} {z : Value} {n b : Nat} (ht : P.underlying t = some (.slice e)) (hz : TI P e z n b)
    (hx : ev r x = .slice (some a) len cap) (hy : ev r y = .int k i) (hb : 0 ≤ i ∧ i < len) (hw : wantR ⟨some d, .indexAddr t x y, ty, pos, aft, g⟩ ops r = true)
    (h : WQ P ops C K os (upd r d (.pointer (some (a.add (i.toNat * n)))))) : WQ P ops C K (⟨some d, .indexAddr t x y, ty, pos, aft, g⟩ :: os) r := by
  refine Q.val hw (fun w hC => ?_) h
  simp only [execOp, hx, hy, Instr.indexAt, asIntOf, pure_bind, Sem.run_bind, run_underlying ht, Result.andThen_ok, Sem.run_pure, if_pos hb, run_size hz]
theorem Q.indexArr {t e : TypeId} {m : Nat} {x y : Operand} {a : Addr} {i : Int} {k : IntKind} {z : Value} {n b : Nat} (ht : P.underlying t = some (.array m e)) (hz : TI P e z n b)
    (hx : ev r x = .pointer (some a)) (hy : ev r y = .int k i) (hb : 0 ≤ i ∧ i < m) (hw : wantR ⟨some d, .indexAddr t x y, ty, pos, aft, g⟩ ops r = true)
    (h : WQ P ops C K os (upd r d (.pointer (some (a.add (i.toNat * n)))))) : WQ P ops C K (⟨some d, .indexAddr t x y, ty, pos, aft, g⟩ :: os) r := by
  refine Q.val hw (fun w hC => ?_) h
  simp only [execOp, hx, hy, Instr.indexAt, asIntOf, pure_bind, Sem.run_bind, run_underlying ht, Result.andThen_ok, Sem.run_pure, if_pos hb, run_size hz, Instr.sureAddr]

theorem Q.extract {x : Operand} {vs : Array Value} {i : Nat} {v : Value} (hx : ev r x = .tuple vs) (hv : vs[i]? = some v) (hw : wantR ⟨some d, .extract x i, ty, pos, aft, g⟩ ops r = true)
    (h : WQ P ops C K os (upd r d v)) : WQ P ops C K (⟨some d, .extract x i, ty, pos, aft, g⟩ :: os) r :=
  Q.val hw (fun w hC => (by simp [execOp, hx, Instr.extract, hv, Sem.run_bind])) h
theorem Q.len {t : TypeId} {x : Operand} {v : Value} {n : Nat} {at_ : Array TypeId} (hl : ∀ w, C w → (Builtin.len_ at_ ty #[v]).run P w = .ok (.int .i64 n) w) (hx : ev r x = v)
    (hw : wantR ⟨some d, .call { callee := .builtin .len, args := #[x], argTypes := at_ }, ty, pos, aft, g⟩ ops r = true)
    (h : WQ P ops C K os (upd r d (.int .i64 n))) : WQ P ops C K (⟨some d, .call { callee := .builtin .len, args := #[x], argTypes := at_ }, ty, pos, aft, g⟩ :: os) r := by
  subst hx
  refine Q.val hw (fun w hC => ?_) h
  simp only [execOp, resolve, invoke, builtin, List.map_toArray, List.map_cons, List.map_nil, pure_bind, Sem.run_bind, hl w hC, Result.andThen_ok, Sem.run_pure]
theorem Q.lenSl {t e : TypeId} {x : Operand} {a : Option Addr} {n c : Nat} (ht : P.underlying t = some (.slice e)) (hx : ev r x = .slice a n c)
    (hw : wantR ⟨some d, .call { callee := .builtin .len, args := #[x], argTypes := #[t] }, ty, pos, aft, g⟩ ops r = true)
    (h : WQ P ops C K os (upd r d (.int .i64 n))) : WQ P ops C K (⟨some d, .call { callee := .builtin .len, args := #[x], argTypes := #[t] }, ty, pos, aft, g⟩ :: os) r :=
  Q.len (t := t) (fun w hC => by simp [Builtin.len_, Sem.run_bind, run_underlying ht, goInt]) hx hw h
theorem Q.lenStr {t : TypeId} {x : Operand} {a : ByteArray} (ht : P.underlying t = some .string) (hx : ev r x = .string a)
    (hw : wantR ⟨some d, .call { callee := .builtin .len, args := #[x], argTypes := #[t] }, ty, pos, aft, g⟩ ops r = true)
    (h : WQ P ops C K os (upd r d (.int .i64 a.size))) : WQ P ops C K (⟨some d, .call { callee := .builtin .len, args := #[x], argTypes := #[t] }, ty, pos, aft, g⟩ :: os) r :=
  Q.len (t := t) (fun w hC => by simp [Builtin.len_, Sem.run_bind, run_underlying ht, goInt]) hx hw h

theorem Q.load1 {t : TypeId} {td : TypeDesc} {x : Operand} {a : Addr} {v : Value} (ht : P.underlying t = some td) (hta : agB (some td) = false) (hx : ev r x = .pointer (some a)) (hc : ∀ w, C w → w.cell? a = some v)
    (hw : wantR ⟨some d, .load t x, ty, pos, aft, g⟩ ops r = true) (h : WQ P ops C K os (upd r d v)) : WQ P ops C K (⟨some d, .load t x, ty, pos, aft, g⟩ :: os) r := by
  refine Q.val hw (fun w hC => ?_) h
  simp only [execOp, hx, Instr.loadAt, Instr.sureAddr, pure_bind, loadVar, Sem.run_bind, run_isAgg ht, hta, Result.andThen_ok, Bool.false_eq_true, if_false]
  rw [show (load a).run P w = .ok v w from by simp [load, Sem.run, hc w hC]]
  rfl
theorem Q.loadA {t : TypeId} {td : TypeDesc} {z : Value} {n b : Nat} {x : Operand} {a : Addr} {cs : List Value} (ht : P.underlying t = some td) (hta : agB (some td) = true) (hi : TI P t z n b)
    (hx : ev r x = .pointer (some a)) (hn : cs.length = n) (hc : ∀ w, C w → ∀ j u, cs[j]? = some u → w.cell? (a.add j) = some u)
    (hw : wantR ⟨some d, .load t x, ty, pos, aft, g⟩ ops r = true) (h : WQ P ops C K os (upd r d (.agg cs.toArray))) : WQ P ops C K (⟨some d, .load t x, ty, pos, aft, g⟩ :: os) r := by
  refine Q.val hw (fun w hC => ?_) h
  simp only [execOp, hx, Instr.loadAt, Instr.sureAddr, pure_bind, Sem.run_bind, run_loadAgg ht hta hi hn (hc w hC), Result.andThen_ok]
  rfl

theorem Q.indexRo {α : Type} {enc : α → List Value} {t e : TypeId} {x y : Operand} {v : Value} {xs : List α} {i : Int} {k : IntKind} {z : Value} {n b : Nat} (hro : Ro R enc n v xs) (ht : P.underlying t = some (.slice e)) (hz : TI P e z n b)
    (hx : ev r x = v) (hy : ev r y = .int k i) (hb : 0 ≤ i ∧ i < xs.length) (hw : wantR ⟨some d, .indexAddr t x y, ty, pos, aft, g⟩ ops r = true)
    (h : ∀ ad u, xs[i.toNat]? = some u → (enc u).length = n → (∀ j c, (enc u)[j]? = some c → roCell R (ad.add j) c) → WQ P ops C K os (upd r d (.pointer (some ad)))) :
    WQ P ops C K (⟨some d, .indexAddr t x y, ty, pos, aft, g⟩ :: os) r := by
  subst hx
  rcases hro with ⟨h1, rfl⟩ | ⟨a, c, h1, h2, h3⟩
  · simp at hb; omega
  · have hlt : i.toNat < xs.length := by omega
    refine Q.indexAddr ht hz h1 hy hb hw ?_
    have hu : xs[i.toNat]? = some xs[i.toNat] := by simp [hlt]
    refine h _ _ hu (h3 _ _ hu).1 ?_
    intro j c hc
    have := (h3 _ _ hu).2 j c hc
    rw [Addr.add_add]
    exact this

/-- A call that tells one value and changes nothing that is owned or known. -/
theorem Q.call {f : FuncId} {as : List Operand} {at_ : Array TypeId} {vs : List Value} {v : Value} (he : Ent P f) (ha : as.map (ev r) = vs)
    (hF : ∀ w, C w → Fn P f vs.toArray w (fun v' w' => v' = v ∧ C w')) (hw : wantR ⟨some d, .call { callee := .value (.func f), args := as.toArray, argTypes := at_ }, ty, pos, aft, g⟩ ops r = true)
    (h : WQ P ops C K os (upd r d v)) : WQ P ops C K (⟨some d, .call { callee := .value (.func f), args := as.toArray, argTypes := at_ }, ty, pos, aft, g⟩ :: os) r := by
  subst ha
  unfold WQ; rw [hw]
  refine ⟨v, fun w hC => ?_, h⟩
  have hr : (execOp (ev r) ⟨some d, .call { callee := .value (.func f), args := as.toArray, argTypes := at_ }, ty, pos, aft, g⟩).run P w = .ok (.enter f (as.map (ev r)).toArray) w := by
    simp only [execOp, resolve, ev, Deferred.ofValue, invoke, pure_bind, List.map_toArray]
    simp [run_callFunc he, Sem.run_bind]
  rw [hr]
  exact ⟨rfl, Calls.mono (hF w hC) (fun e w' ⟨v', h1, h2, h3⟩ => ⟨by rw [h1, h2], h3⟩)⟩
end
section
variable {P : Program} {ops : Array Oper} {R : Kn} {L : List HP} {K : Regs → Prop} {r : Regs} {os : List Oper}
  {d : Nat} {ty : TypeId} {pos : String} {aft : Array Edge} {g : Option (Nat × Bool)}
theorem Q.loadB {t : TypeId} {td : TypeDesc} {x : Operand} {i b off : Nat} {c : Array Value} {t' : TypeId} {fz : Nat × Nat} {v : Value} (hi : L[i]? = some (blk b (.cells c t' fz)))
    (ht : P.underlying t = some td) (hta : agB (some td) = false) (hx : ev r x = .pointer (some ⟨b, off, none⟩)) (hv : c[off]? = some v)
    (hw : wantR ⟨some d, .load t x, ty, pos, aft, g⟩ ops r = true) (h : WQ P ops (fun w => St w R L) K os (upd r d v)) : WQ P ops (fun w => St w R L) K (⟨some d, .load t x, ty, pos, aft, g⟩ :: os) r :=
  Q.load1 ht hta hx (fun w s => cell_of_heap (s.at_ hi).blkAt hv) hw h
theorem Q.loadBA {t : TypeId} {td : TypeDesc} {z : Value} {n b' : Nat} {x : Operand} {i b off : Nat} {c : Array Value} {t' : TypeId} {fz : Nat × Nat} {cs : List Value} (hi : L[i]? = some (blk b (.cells c t' fz)))
    (ht : P.underlying t = some td) (hta : agB (some td) = true) (hI : TI P t z n b') (hx : ev r x = .pointer (some ⟨b, off, none⟩)) (hn : cs.length = n) (hv : (c.toList.drop off).take n = cs)
    (hw : wantR ⟨some d, .load t x, ty, pos, aft, g⟩ ops r = true) (h : WQ P ops (fun w => St w R L) K os (upd r d (.agg cs.toArray))) : WQ P ops (fun w => St w R L) K (⟨some d, .load t x, ty, pos, aft, g⟩ :: os) r := by
  refine Q.loadA ht hta hI hx hn ?_ hw h
  intro w s j u hu
  rw [Addr.add_none]
  refine cell_of_heap (s.at_ hi).blkAt ?_
  rw [← hv, List.getElem?_take, List.getElem?_drop] at hu
  split at hu
  · rw [← Array.getElem?_toList]; exact hu
  · cases hu
theorem Q.loadRo {t : TypeId} {td : TypeDesc} {x : Operand} {ad : Addr} {cs : List Value} {v : Value} (hc : ∀ j c, cs[j]? = some c → roCell R (ad.add j) c) (hv : cs[0]? = some v)
    (ht : P.underlying t = some td) (hta : agB (some td) = false) (hx : ev r x = .pointer (some ad))
    (hw : wantR ⟨some d, .load t x, ty, pos, aft, g⟩ ops r = true) (h : WQ P ops (fun w => St w R L) K os (upd r d v)) : WQ P ops (fun w => St w R L) K (⟨some d, .load t x, ty, pos, aft, g⟩ :: os) r :=
  Q.load1 ht hta hx (fun w s => by have := s.roCell (hc 0 v hv); rwa [show ad.add 0 = ad from rfl] at this) hw h
theorem Q.loadRoA {t : TypeId} {td : TypeDesc} {z : Value} {n b : Nat} {x : Operand} {ad : Addr} {cs : List Value} (hc : ∀ j c, cs[j]? = some c → roCell R (ad.add j) c) (hl : cs.length = n)
    (ht : P.underlying t = some td) (hta : agB (some td) = true) (hI : TI P t z n b) (hx : ev r x = .pointer (some ad))
    (hw : wantR ⟨some d, .load t x, ty, pos, aft, g⟩ ops r = true) (h : WQ P ops (fun w => St w R L) K os (upd r d (.agg cs.toArray))) : WQ P ops (fun w => St w R L) K (⟨some d, .load t x, ty, pos, aft, g⟩ :: os) r :=
  Q.loadA ht hta hI hx hl (fun w s j u hu => s.roCell (hc j u hu)) hw h
end
end Go.Proofs.Ytiffedgmageiaaa.B

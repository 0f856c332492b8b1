/- One rule for each operation: what it makes of the registers and of the world. -/
import Derived.Test.YtiffedgmageiaaaMem
import Derived.Laws.Entries
import Derived.Tactics
import Derived.IntWalk
import Derived.Laws.StructEq
import Derived.KernelRfl
namespace Go.Proofs.Ytiffedgmageiaaa.B
set_option linter.unusedVariables false
set_option linter.unusedSimpArgs false

theorem wrap_i64 {n : Int} (h0 : -9223372036854775808 ≤ n) (h1 : n ≤ 9223372036854775807) : IntKind.i64.wrap n = n := IntWalk.i64_in n ⟨h0, h1⟩
theorem wrap_u64 {n : Int} (h0 : 0 ≤ n) (h1 : n ≤ 18446744073709551615) : IntKind.u64.wrap n = n := by
  simp [IntKind.wrap, IntKind.bits, IntKind.signed]; omega
theorem wrap_u32 {n : Int} (h0 : 0 ≤ n) (h1 : n ≤ 4294967295) : IntKind.u32.wrap n = n := by
  simp [IntKind.wrap, IntKind.bits, IntKind.signed]; omega
theorem wrap_u8 {n : Int} (h0 : 0 ≤ n) (h1 : n ≤ 255) : IntKind.u8.wrap n = n := by
  simp [IntKind.wrap, IntKind.bits, IntKind.signed]; omega

section
variable {P : Program} {ops : Array Oper} {Q : Exit → Regs → World → Prop} {r : Regs} {w : World} {os : List Oper}
  {d : Nat} {ty : TypeId} {pos : String} {aft : Array Edge} {g : Option (Nat × Bool)}

/-- An operation that yields a value and changes nothing. -/
theorem S.val {o : Oper} {v : Value} (hw : wantR o ops r = true) (hr : (execOp (ev r) o).run P w = .ok (.value v) w) (h : WS P ops Q os (updO r o.dst v) w) : WS P ops Q (o :: os) r w :=
  WS.op hw (by unfold ROp; rw [hr]; exact h)

theorem S.move {x : Operand} {v : Value} (hx : ev r x = v) (hw : wantR ⟨some d, .move x, ty, pos, aft, g⟩ ops r = true) (h : WS P ops Q os (upd r d v) w) :
    WS P ops Q (⟨some d, .move x, ty, pos, aft, g⟩ :: os) r w := by subst hx; exact S.val hw rfl h
theorem S.assign {x : Operand} {v : Value} (hx : ev r x = v) (hw : wantR ⟨some d, .assign x, ty, pos, aft, g⟩ ops r = true) (h : WS P ops Q os (upd r d v) w) :
    WS P ops Q (⟨some d, .assign x, ty, pos, aft, g⟩ :: os) r w := by subst hx; exact S.val hw rfl h
theorem S.moveT {t : Nat} (hw : wantR ⟨some d, .move (.tmp t), ty, pos, aft, g⟩ ops r = true) (h : WS P ops Q os (cp r d t) w) :
    WS P ops Q (⟨some d, .move (.tmp t), ty, pos, aft, g⟩ :: os) r w := S.val hw rfl h
theorem S.assignT {t : Nat} (hw : wantR ⟨some d, .assign (.tmp t), ty, pos, aft, g⟩ ops r = true) (h : WS P ops Q os (cp r d t) w) :
    WS P ops Q (⟨some d, .assign (.tmp t), ty, pos, aft, g⟩ :: os) r w := S.val hw rfl h
theorem S.moveC {v : Value} (hw : wantR ⟨some d, .move (.const v), ty, pos, aft, g⟩ ops r = true) (h : WS P ops Q os (upd r d v) w) :
    WS P ops Q (⟨some d, .move (.const v), ty, pos, aft, g⟩ :: os) r w := S.val hw rfl h
theorem S.assignC {v : Value} (hw : wantR ⟨some d, .assign (.const v), ty, pos, aft, g⟩ ops r = true) (h : WS P ops Q os (upd r d v) w) :
    WS P ops Q (⟨some d, .assign (.const v), ty, pos, aft, g⟩ :: os) r w := S.val hw rfl h
theorem S.pickTC {c y : Operand} {v : Value} (hc : ev r c = .bool true) (hw : wantR ⟨some d, .pick c (.const v) y, ty, pos, aft, g⟩ ops r = true) (h : WS P ops Q os (upd r d v) w) :
    WS P ops Q (⟨some d, .pick c (.const v) y, ty, pos, aft, g⟩ :: os) r w := by
  refine S.val hw ?_ h
  simp only [execOp, hc, asBool, pure_bind]
  rfl
theorem S.pickFC {c x : Operand} {v : Value} (hc : ev r c = .bool false) (hw : wantR ⟨some d, .pick c x (.const v), ty, pos, aft, g⟩ ops r = true) (h : WS P ops Q os (upd r d v) w) :
    WS P ops Q (⟨some d, .pick c x (.const v), ty, pos, aft, g⟩ :: os) r w := by
  refine S.val hw ?_ h
  simp only [execOp, hc, asBool, pure_bind]
  rfl
theorem S.pickT {c y : Operand} {t : Nat} (hc : ev r c = .bool true) (hw : wantR ⟨some d, .pick c (.tmp t) y, ty, pos, aft, g⟩ ops r = true) (h : WS P ops Q os (cp r d t) w) :
    WS P ops Q (⟨some d, .pick c (.tmp t) y, ty, pos, aft, g⟩ :: os) r w := by
  refine S.val hw ?_ h
  simp only [execOp, hc, asBool, pure_bind]
  rfl
theorem S.pickF {c x : Operand} {t : Nat} (hc : ev r c = .bool false) (hw : wantR ⟨some d, .pick c x (.tmp t), ty, pos, aft, g⟩ ops r = true) (h : WS P ops Q os (cp r d t) w) :
    WS P ops Q (⟨some d, .pick c x (.tmp t), ty, pos, aft, g⟩ :: os) r w := by
  refine S.val hw ?_ h
  simp only [execOp, hc, asBool, pure_bind]
  rfl
theorem S.assignNone {x : Operand} (hw : wantR ⟨none, .assign x, ty, pos, aft, g⟩ ops r = true) (h : WS P ops Q os r w) :
    WS P ops Q (⟨none, .assign x, ty, pos, aft, g⟩ :: os) r w := S.val hw rfl h
theorem S.moveNone {x : Operand} (hw : wantR ⟨none, .move x, ty, pos, aft, g⟩ ops r = true) (h : WS P ops Q os r w) :
    WS P ops Q (⟨none, .move x, ty, pos, aft, g⟩ :: os) r w := S.val hw rfl h
theorem S.off {o : Op} (hw : wantR ⟨some d, o, ty, pos, aft, g⟩ ops r = false) (h : WS P ops Q os (upd r d undef) w) :
    WS P ops Q (⟨some d, o, ty, pos, aft, g⟩ :: os) r w := WS.off hw h
theorem S.pick {c x y : Operand} {b : Bool} {v : Value} (hc : ev r c = .bool b) (hv : (bif b then ev r x else ev r y) = v)
    (hw : wantR ⟨some d, .pick c x y, ty, pos, aft, g⟩ ops r = true) (h : WS P ops Q os (upd r d v) w) :
    WS P ops Q (⟨some d, .pick c x y, ty, pos, aft, g⟩ :: os) r w := by
  subst hv
  refine S.val hw ?_ h
  simp only [execOp, hc, asBool, pure_bind]
  cases b <;> rfl

theorem S.binI {op : BinOp} {t t' : TypeId} {x y : Operand} {k : IntKind} {m n : Int} {v : Value} (hx : ev r x = .int k m) (hy : ev r y = .int k n)
    (hb : (binOp op t (.int k m) (.int k n)).run P w = .ok v w)
    (hw : wantR ⟨some d, .binOp op t x y t', ty, pos, aft, g⟩ ops r = true) (h : WS P ops Q os (upd r d v) w) :
    WS P ops Q (⟨some d, .binOp op t x y t', ty, pos, aft, g⟩ :: os) r w := by
  refine S.val hw ?_ h
  simp only [execOp, hx, hy]
  have : eqGuard op t x y (.int k m) (.int k n) = pure () := by unfold eqGuard; split <;> rfl
  rw [this]
  simp only [pure_bind, Sem.run_bind, hb, Result.andThen_ok]
  rfl

section ints
variable {t t' : TypeId} {x y : Operand} {k : IntKind} {m n : Int}
theorem S.add (hx : ev r x = .int k m) (hy : ev r y = .int k n) (hw : wantR ⟨some d, .binOp .add t x y t', ty, pos, aft, g⟩ ops r = true)
    (h : WS P ops Q os (upd r d (.int k (k.wrap (m + n)))) w) : WS P ops Q (⟨some d, .binOp .add t x y t', ty, pos, aft, g⟩ :: os) r w :=
  S.binI hx hy (by simp [binOp, Op.intArith, Sem.run_pure]) hw h
theorem S.sub (hx : ev r x = .int k m) (hy : ev r y = .int k n) (hw : wantR ⟨some d, .binOp .sub t x y t', ty, pos, aft, g⟩ ops r = true)
    (h : WS P ops Q os (upd r d (.int k (k.wrap (m - n)))) w) : WS P ops Q (⟨some d, .binOp .sub t x y t', ty, pos, aft, g⟩ :: os) r w :=
  S.binI hx hy (by simp [binOp, Op.intArith, Sem.run_pure]) hw h
theorem S.mul (hx : ev r x = .int k m) (hy : ev r y = .int k n) (hw : wantR ⟨some d, .binOp .mul t x y t', ty, pos, aft, g⟩ ops r = true)
    (h : WS P ops Q os (upd r d (.int k (k.wrap (m * n)))) w) : WS P ops Q (⟨some d, .binOp .mul t x y t', ty, pos, aft, g⟩ :: os) r w :=
  S.binI hx hy (by simp [binOp, Op.intArith, Sem.run_pure]) hw h
theorem S.addN (hx : ev r x = .int .i64 m) (hy : ev r y = .int .i64 n) (hw : wantR ⟨some d, .binOp .add t x y t', ty, pos, aft, g⟩ ops r = true)
    (hb : -9223372036854775808 ≤ m + n ∧ m + n ≤ 9223372036854775807)
    (h : WS P ops Q os (upd r d (.int .i64 (m + n))) w) : WS P ops Q (⟨some d, .binOp .add t x y t', ty, pos, aft, g⟩ :: os) r w :=
  S.add hx hy hw (by rw [wrap_i64 hb.1 hb.2]; exact h)
theorem S.subN (hx : ev r x = .int .i64 m) (hy : ev r y = .int .i64 n) (hw : wantR ⟨some d, .binOp .sub t x y t', ty, pos, aft, g⟩ ops r = true)
    (hb : -9223372036854775808 ≤ m - n ∧ m - n ≤ 9223372036854775807)
    (h : WS P ops Q os (upd r d (.int .i64 (m - n))) w) : WS P ops Q (⟨some d, .binOp .sub t x y t', ty, pos, aft, g⟩ :: os) r w :=
  S.sub hx hy hw (by rw [wrap_i64 hb.1 hb.2]; exact h)
theorem S.mulN (hx : ev r x = .int .i64 m) (hy : ev r y = .int .i64 n) (hw : wantR ⟨some d, .binOp .mul t x y t', ty, pos, aft, g⟩ ops r = true)
    (hb : -9223372036854775808 ≤ m * n ∧ m * n ≤ 9223372036854775807)
    (h : WS P ops Q os (upd r d (.int .i64 (m * n))) w) : WS P ops Q (⟨some d, .binOp .mul t x y t', ty, pos, aft, g⟩ :: os) r w :=
  S.mul hx hy hw (by rw [wrap_i64 hb.1 hb.2]; exact h)
theorem S.quo (hx : ev r x = .int k m) (hy : ev r y = .int k n) (hn : n ≠ 0) (hw : wantR ⟨some d, .binOp .quo t x y t', ty, pos, aft, g⟩ ops r = true)
    (h : WS P ops Q os (upd r d (.int k (k.wrap (m.tdiv n)))) w) : WS P ops Q (⟨some d, .binOp .quo t x y t', ty, pos, aft, g⟩ :: os) r w :=
  S.binI hx hy (by simp [binOp, Op.intDiv, Sem.run_pure, hn]) hw h
theorem S.rem (hx : ev r x = .int k m) (hy : ev r y = .int k n) (hn : n ≠ 0) (hw : wantR ⟨some d, .binOp .rem t x y t', ty, pos, aft, g⟩ ops r = true)
    (h : WS P ops Q os (upd r d (.int k (m.tmod n))) w) : WS P ops Q (⟨some d, .binOp .rem t x y t', ty, pos, aft, g⟩ :: os) r w :=
  S.binI hx hy (by simp [binOp, Op.intDiv, Sem.run_pure, hn]) hw h
theorem S.quoU (hx : ev r x = .int .u64 m) (hy : ev r y = .int .u64 n) (hm : 0 ≤ m ∧ m ≤ 18446744073709551615) (hn : 0 < n) (hw : wantR ⟨some d, .binOp .quo t x y t', ty, pos, aft, g⟩ ops r = true)
    (h : WS P ops Q os (upd r d (.int .u64 (m / n))) w) : WS P ops Q (⟨some d, .binOp .quo t x y t', ty, pos, aft, g⟩ :: os) r w := by
  refine S.quo hx hy (by omega) hw ?_
  rw [Int.tdiv_eq_ediv_of_nonneg hm.1, wrap_u64 (Int.ediv_nonneg hm.1 (by omega)) (Int.le_trans (Int.ediv_le_self _ hm.1) hm.2)]
  exact h
theorem S.addU (hx : ev r x = .int .u64 m) (hy : ev r y = .int .u64 n) (hw : wantR ⟨some d, .binOp .add t x y t', ty, pos, aft, g⟩ ops r = true)
    (hb : 0 ≤ m + n ∧ m + n ≤ 18446744073709551615)
    (h : WS P ops Q os (upd r d (.int .u64 (m + n))) w) : WS P ops Q (⟨some d, .binOp .add t x y t', ty, pos, aft, g⟩ :: os) r w :=
  S.add hx hy hw (by rw [wrap_u64 hb.1 hb.2]; exact h)
theorem S.subU (hx : ev r x = .int .u64 m) (hy : ev r y = .int .u64 n) (hw : wantR ⟨some d, .binOp .sub t x y t', ty, pos, aft, g⟩ ops r = true)
    (hb : 0 ≤ m - n ∧ m - n ≤ 18446744073709551615)
    (h : WS P ops Q os (upd r d (.int .u64 (m - n))) w) : WS P ops Q (⟨some d, .binOp .sub t x y t', ty, pos, aft, g⟩ :: os) r w :=
  S.sub hx hy hw (by rw [wrap_u64 hb.1 hb.2]; exact h)
theorem S.mulU (hx : ev r x = .int .u64 m) (hy : ev r y = .int .u64 n) (hw : wantR ⟨some d, .binOp .mul t x y t', ty, pos, aft, g⟩ ops r = true)
    (hb : 0 ≤ m * n ∧ m * n ≤ 18446744073709551615)
    (h : WS P ops Q os (upd r d (.int .u64 (m * n))) w) : WS P ops Q (⟨some d, .binOp .mul t x y t', ty, pos, aft, g⟩ :: os) r w :=
  S.mul hx hy hw (by rw [wrap_u64 hb.1 hb.2]; exact h)
theorem S.quoK (hx : ev r x = .int k m) (hy : ev r y = .int k n) (hm : 0 ≤ m) (hn : 0 < n) (hb : k.wrap (m / n) = m / n) (hw : wantR ⟨some d, .binOp .quo t x y t', ty, pos, aft, g⟩ ops r = true)
    (h : WS P ops Q os (upd r d (.int k (m / n))) w) : WS P ops Q (⟨some d, .binOp .quo t x y t', ty, pos, aft, g⟩ :: os) r w := by
  refine S.quo hx hy (by omega) hw ?_
  rw [Int.tdiv_eq_ediv_of_nonneg hm, hb]
  exact h
theorem S.quoN (hx : ev r x = .int .i64 m) (hy : ev r y = .int .i64 n) (hm : 0 ≤ m ∧ m ≤ 9223372036854775807) (hn : 0 < n) (hw : wantR ⟨some d, .binOp .quo t x y t', ty, pos, aft, g⟩ ops r = true)
    (h : WS P ops Q os (upd r d (.int .i64 (m / n))) w) : WS P ops Q (⟨some d, .binOp .quo t x y t', ty, pos, aft, g⟩ :: os) r w := by
  refine S.quo hx hy (by omega) hw ?_
  have h0 := Int.ediv_nonneg hm.1 (Int.le_of_lt hn)
  rw [Int.tdiv_eq_ediv_of_nonneg hm.1, wrap_i64 (by omega) (Int.le_trans (Int.ediv_le_self _ hm.1) hm.2)]
  exact h
theorem S.remN (hx : ev r x = .int k m) (hy : ev r y = .int k n) (hm : 0 ≤ m) (hn : 0 < n) (hw : wantR ⟨some d, .binOp .rem t x y t', ty, pos, aft, g⟩ ops r = true)
    (h : WS P ops Q os (upd r d (.int k (m % n))) w) : WS P ops Q (⟨some d, .binOp .rem t x y t', ty, pos, aft, g⟩ :: os) r w := by
  refine S.rem hx hy (by omega) hw ?_
  rw [Int.tmod_eq_emod_of_nonneg hm]
  exact h
theorem S.and (hx : ev r x = .int k m) (hy : ev r y = .int k n) (hw : wantR ⟨some d, .binOp .and t x y t', ty, pos, aft, g⟩ ops r = true)
    (h : WS P ops Q os (upd r d (.int k (bits .and k m n))) w) : WS P ops Q (⟨some d, .binOp .and t x y t', ty, pos, aft, g⟩ :: os) r w :=
  S.binI hx hy (by simp [binOp, Op.intBits, Sem.run_pure, bits]) hw h
theorem S.or (hx : ev r x = .int k m) (hy : ev r y = .int k n) (hw : wantR ⟨some d, .binOp .or t x y t', ty, pos, aft, g⟩ ops r = true)
    (h : WS P ops Q os (upd r d (.int k (bits .or k m n))) w) : WS P ops Q (⟨some d, .binOp .or t x y t', ty, pos, aft, g⟩ :: os) r w :=
  S.binI hx hy (by simp [binOp, Op.intBits, Sem.run_pure, bits]) hw h
theorem S.xor (hx : ev r x = .int k m) (hy : ev r y = .int k n) (hw : wantR ⟨some d, .binOp .xor t x y t', ty, pos, aft, g⟩ ops r = true)
    (h : WS P ops Q os (upd r d (.int k (bits .xor k m n))) w) : WS P ops Q (⟨some d, .binOp .xor t x y t', ty, pos, aft, g⟩ :: os) r w :=
  S.binI hx hy (by simp [binOp, Op.intBits, Sem.run_pure, bits]) hw h
theorem S.andNot (hx : ev r x = .int k m) (hy : ev r y = .int k n) (hw : wantR ⟨some d, .binOp .andNot t x y t', ty, pos, aft, g⟩ ops r = true)
    (h : WS P ops Q os (upd r d (.int k (bits .andNot k m n))) w) : WS P ops Q (⟨some d, .binOp .andNot t x y t', ty, pos, aft, g⟩ :: os) r w :=
  S.binI hx hy (by simp [binOp, Op.intBits, Sem.run_pure, bits]) hw h
theorem S.lss (hx : ev r x = .int k m) (hy : ev r y = .int k n) (hw : wantR ⟨some d, .binOp .lss t x y t', ty, pos, aft, g⟩ ops r = true)
    (h : WS P ops Q os (upd r d (.bool (decide (m < n)))) w) : WS P ops Q (⟨some d, .binOp .lss t x y t', ty, pos, aft, g⟩ :: os) r w :=
  S.binI hx hy (by simp [binOp, Op.intCmp, Sem.run_pure]) hw h
theorem S.leq (hx : ev r x = .int k m) (hy : ev r y = .int k n) (hw : wantR ⟨some d, .binOp .leq t x y t', ty, pos, aft, g⟩ ops r = true)
    (h : WS P ops Q os (upd r d (.bool (decide (m ≤ n)))) w) : WS P ops Q (⟨some d, .binOp .leq t x y t', ty, pos, aft, g⟩ :: os) r w :=
  S.binI hx hy (by simp [binOp, Op.intCmp, Sem.run_pure]) hw h
theorem S.gtr (hx : ev r x = .int k m) (hy : ev r y = .int k n) (hw : wantR ⟨some d, .binOp .gtr t x y t', ty, pos, aft, g⟩ ops r = true)
    (h : WS P ops Q os (upd r d (.bool (decide (n < m)))) w) : WS P ops Q (⟨some d, .binOp .gtr t x y t', ty, pos, aft, g⟩ :: os) r w :=
  S.binI hx hy (by simp [binOp, Op.intCmp, Sem.run_pure]) hw h
theorem S.geq (hx : ev r x = .int k m) (hy : ev r y = .int k n) (hw : wantR ⟨some d, .binOp .geq t x y t', ty, pos, aft, g⟩ ops r = true)
    (h : WS P ops Q os (upd r d (.bool (decide (n ≤ m)))) w) : WS P ops Q (⟨some d, .binOp .geq t x y t', ty, pos, aft, g⟩ :: os) r w :=
  S.binI hx hy (by simp [binOp, Op.intCmp, Sem.run_pure]) hw h
theorem S.eql (hx : ev r x = .int k m) (hy : ev r y = .int k n) (hw : wantR ⟨some d, .binOp .eql t x y t', ty, pos, aft, g⟩ ops r = true)
    (h : WS P ops Q os (upd r d (.bool (decide (m = n)))) w) : WS P ops Q (⟨some d, .binOp .eql t x y t', ty, pos, aft, g⟩ :: os) r w :=
  S.binI hx hy (by simp [binOp, Op.intCmp, Sem.run_pure]; rfl) hw h
theorem S.neq (hx : ev r x = .int k m) (hy : ev r y = .int k n) (hw : wantR ⟨some d, .binOp .neq t x y t', ty, pos, aft, g⟩ ops r = true)
    (h : WS P ops Q os (upd r d (.bool (decide (m ≠ n)))) w) : WS P ops Q (⟨some d, .binOp .neq t x y t', ty, pos, aft, g⟩ :: os) r w :=
  S.binI hx hy (by simp [binOp, Op.intCmp, Sem.run_pure, bne]; rfl) hw h
/-- A shift by a number that is known not to be below 0. -/
theorem S.shl {k' : IntKind} (hx : ev r x = .int k m) (hy : ev r y = .int k' n) (hn : 0 ≤ n) (hw : wantR ⟨some d, .binOp .shl t x y t', ty, pos, aft, g⟩ ops r = true)
    (h : WS P ops Q os (upd r d (.int k (k.wrap (m * 2 ^ (min n.toNat k.bits))))) w) : WS P ops Q (⟨some d, .binOp .shl t x y t', ty, pos, aft, g⟩ :: os) r w := by
  refine S.val hw ?_ h
  have : eqGuard .shl t x y (.int k m) (.int k' n) = pure () := by unfold eqGuard; rfl
  simp only [execOp, hx, hy, this, pure_bind, binOp, Op.shift, if_neg (Int.not_lt.2 hn), Sem.run_pure]
theorem S.shr {k' : IntKind} (hx : ev r x = .int k m) (hy : ev r y = .int k' n) (hn : 0 ≤ n) (hw : wantR ⟨some d, .binOp .shr t x y t', ty, pos, aft, g⟩ ops r = true)
    (h : WS P ops Q os (upd r d (.int k (m.fdiv (2 ^ (min n.toNat k.bits))))) w) : WS P ops Q (⟨some d, .binOp .shr t x y t', ty, pos, aft, g⟩ :: os) r w := by
  refine S.val hw ?_ h
  have : eqGuard .shr t x y (.int k m) (.int k' n) = pure () := by unfold eqGuard; rfl
  simp only [execOp, hx, hy, this, pure_bind, binOp, Op.shift, if_neg (Int.not_lt.2 hn), Sem.run_pure]
/-- A shift by a constant: the power written out by whoever uses it (hq by rfl). -/
theorem S.shrC {k' : IntKind} {q : Int} (hx : ev r x = .int k m) (hy : ev r y = .int k' n) (hn : decide (0 ≤ n) = true) (hq : (2 : Int) ^ (min n.toNat k.bits) = q) (hw : wantR ⟨some d, .binOp .shr t x y t', ty, pos, aft, g⟩ ops r = true)
    (hq0 : decide (0 < q) = true) (h : WS P ops Q os (upd r d (.int k (m / q))) w) : WS P ops Q (⟨some d, .binOp .shr t x y t', ty, pos, aft, g⟩ :: os) r w := by
  have hq1 : 0 < q := by simpa using hq0
  refine S.shr hx hy (by simpa using hn) hw ?_
  rw [hq, Int.fdiv_eq_ediv_of_nonneg _ (by omega)]
  exact h
theorem S.shlC {k' : IntKind} {q : Int} (hx : ev r x = .int k m) (hy : ev r y = .int k' n) (hn : decide (0 ≤ n) = true) (hq : (2 : Int) ^ (min n.toNat k.bits) = q) (hw : wantR ⟨some d, .binOp .shl t x y t', ty, pos, aft, g⟩ ops r = true)
    (h : WS P ops Q os (upd r d (.int k (k.wrap (m * q)))) w) : WS P ops Q (⟨some d, .binOp .shl t x y t', ty, pos, aft, g⟩ :: os) r w := by
  refine S.shl hx hy (by simpa using hn) hw ?_
  rw [hq]
  exact h
theorem S.neg (hx : ev r x = .int k m) (hw : wantR ⟨some d, .unOp .neg t x, ty, pos, aft, g⟩ ops r = true)
    (h : WS P ops Q os (upd r d (.int k (k.wrap (0 - m)))) w) : WS P ops Q (⟨some d, .unOp .neg t x, ty, pos, aft, g⟩ :: os) r w :=
  S.val hw (by simp [execOp, hx, Op.unary, Op.intArith, Sem.run_pure]) h
theorem S.negN (hx : ev r x = .int .i64 m) (hw : wantR ⟨some d, .unOp .neg t x, ty, pos, aft, g⟩ ops r = true) (hb : -9223372036854775807 ≤ m ∧ m ≤ 9223372036854775807)
    (h : WS P ops Q os (upd r d (.int .i64 (-m))) w) : WS P ops Q (⟨some d, .unOp .neg t x, ty, pos, aft, g⟩ :: os) r w :=
  S.neg hx hw (by rw [wrap_i64 (by omega) (by omega), Int.zero_sub]; exact h)
theorem S.compl (hx : ev r x = .int k m) (hw : wantR ⟨some d, .unOp .xor t x, ty, pos, aft, g⟩ ops r = true)
    (h : WS P ops Q os (upd r d (.int k (bits .xor k (if k.signed then -1 else k.max) m))) w) : WS P ops Q (⟨some d, .unOp .xor t x, ty, pos, aft, g⟩ :: os) r w :=
  S.val hw (by simp [execOp, hx, Op.unary, Op.intBits, Sem.run_pure, bits]) h
theorem S.not {b : Bool} (hx : ev r x = .bool b) (hw : wantR ⟨some d, .unOp .not t x, ty, pos, aft, g⟩ ops r = true)
    (h : WS P ops Q os (upd r d (.bool (!b))) w) : WS P ops Q (⟨some d, .unOp .not t x, ty, pos, aft, g⟩ :: os) r w :=
  S.val hw (by simp [execOp, hx, Op.unary, Sem.run_pure]) h
/-- An integer of another kind. -/
theorem S.conv {sd : TypeDesc} {k' : IntKind} (hs : P.underlying t = some sd) (hd : P.underlying t' = some (.int k')) (hx : ev r x = .int k m) (hw : wantR ⟨some d, .convert t t' x, ty, pos, aft, g⟩ ops r = true)
    (h : WS P ops Q os (upd r d (.int k' (k'.wrap m))) w) : WS P ops Q (⟨some d, .convert t t' x, ty, pos, aft, g⟩ :: os) r w :=
  S.val hw (by cases sd <;> simp [execOp, hx, convert, Sem.run_bind, run_underlying hs, run_underlying hd, Conv.intToInt, Sem.run_pure]) h
theorem S.convN {sd : TypeDesc} {k' : IntKind} (hs : P.underlying t = some sd) (hd : P.underlying t' = some (.int k')) (hx : ev r x = .int k m) (hw : wantR ⟨some d, .convert t t' x, ty, pos, aft, g⟩ ops r = true)
    (hb : k'.wrap m = m) (h : WS P ops Q os (upd r d (.int k' m)) w) : WS P ops Q (⟨some d, .convert t t' x, ty, pos, aft, g⟩ :: os) r w :=
  S.conv hs hd hx hw (by rw [hb]; exact h)
/-- '==' of two bools. -/
theorem S.eqlB {b c : Bool} (hu : P.underlying t = some .bool) (hx : ev r x = .bool b) (hy : ev r y = .bool c) (hw : wantR ⟨some d, .binOp .eql t x y t', ty, pos, aft, g⟩ ops r = true)
    (h : WS P ops Q os (upd r d (.bool (b == c))) w) : WS P ops Q (⟨some d, .binOp .eql t x y t', ty, pos, aft, g⟩ :: os) r w := by
  refine S.val hw ?_ h
  have : eqGuard .eql t x y (.bool b) (.bool c) = pure () := by unfold eqGuard; rfl
  simp only [execOp, hx, hy, this, pure_bind, binOp, Op.equal, Op.maxDepth, Sem.run_bind, run_equalIn_bool' w 9999 t b c hu, Result.andThen_ok, Sem.run_pure]
theorem S.neqB {b c : Bool} (hu : P.underlying t = some .bool) (hx : ev r x = .bool b) (hy : ev r y = .bool c) (hw : wantR ⟨some d, .binOp .neq t x y t', ty, pos, aft, g⟩ ops r = true)
    (h : WS P ops Q os (upd r d (.bool (!(b == c)))) w) : WS P ops Q (⟨some d, .binOp .neq t x y t', ty, pos, aft, g⟩ :: os) r w := by
  refine S.val hw ?_ h
  have : eqGuard .neq t x y (.bool b) (.bool c) = pure () := by unfold eqGuard; rfl
  simp only [execOp, hx, hy, this, pure_bind, binOp, Op.equal, Op.maxDepth, Sem.run_bind, run_equalIn_bool' w 9999 t b c hu, Result.andThen_ok, Sem.run_pure]
/-- '==' of two structs or arrays of which no part is an interface: as the kernel reckons it (he). -/
theorem S.eqlA {xs ys : Array Value} {b : Bool} (hx : ev r x = .agg xs) (hy : ev r y = .agg ys) (hm : P.eqGuardType P.depth t = false)
    (he : (Op.equalIn 10000 t (.agg xs) (.agg ys)).run P w = .ok b w) (hw : wantR ⟨some d, .binOp .eql t x y t', ty, pos, aft, g⟩ ops r = true)
    (h : WS P ops Q os (upd r d (.bool b)) w) : WS P ops Q (⟨some d, .binOp .eql t x y t', ty, pos, aft, g⟩ :: os) r w := by
  refine S.val hw ?_ h
  simp only [execOp, hx, hy, Sem.run_bind, run_eqGuard_agg w .eql t x y xs ys hm, Result.andThen_ok, run_eql_struct, he, Sem.run_pure]
theorem S.neqA {xs ys : Array Value} {b : Bool} (hx : ev r x = .agg xs) (hy : ev r y = .agg ys) (hm : P.eqGuardType P.depth t = false)
    (he : (Op.equalIn 10000 t (.agg xs) (.agg ys)).run P w = .ok b w) (hw : wantR ⟨some d, .binOp .neq t x y t', ty, pos, aft, g⟩ ops r = true)
    (h : WS P ops Q os (upd r d (.bool (!b))) w) : WS P ops Q (⟨some d, .binOp .neq t x y t', ty, pos, aft, g⟩ :: os) r w := by
  refine S.val hw ?_ h
  simp only [execOp, hx, hy, Sem.run_bind, run_eqGuard_agg w .neq t x y xs ys hm, Result.andThen_ok, run_neq_struct, he, Sem.run_pure]
end ints
/-- A test whose outcome is open: both ways. -/
theorem S.splitD {p : Prop} [Decidable p] (hb : r d = .bool (decide p)) (ht : p → WS P ops Q os (upd r d (.bool true)) w) (hf : ¬ p → WS P ops Q os (upd r d (.bool false)) w) : WS P ops Q os r w := by
  by_cases h : p
  · have := ht h; rwa [upd_self (by rw [hb, decide_eq_true h])] at this
  · have := hf h; rwa [upd_self (by rw [hb, decide_eq_false h])] at this
theorem S.splitB {b : Bool} (hb : r d = .bool b) (ht : b = true → WS P ops Q os (upd r d (.bool true)) w) (hf : b = false → WS P ops Q os (upd r d (.bool false)) w) : WS P ops Q os r w := by
  cases b with
  | true => have := ht rfl; rwa [upd_self hb] at this
  | false => have := hf rfl; rwa [upd_self hb] at this
theorem S.isTD {p : Prop} [Decidable p] (hb : r d = .bool (decide p)) (hp : p) (h : WS P ops Q os (upd r d (.bool true)) w) : WS P ops Q os r w := by
  rwa [upd_self (by rw [hb, decide_eq_true hp])] at h
theorem S.isFD {p : Prop} [Decidable p] (hb : r d = .bool (decide p)) (hp : ¬ p) (h : WS P ops Q os (upd r d (.bool false)) w) : WS P ops Q os r w := by
  rwa [upd_self (by rw [hb, decide_eq_false hp])] at h
theorem S.isB {b c : Bool} (hb : r d = .bool b) (hp : b = c) (h : WS P ops Q os (upd r d (.bool c)) w) : WS P ops Q os r w := by
  rwa [upd_self (by rw [hb, hp])] at h
/-- A register's value, otherwise written. -/
theorem S.as {v : Value} (hb : r d = v) {v' : Value} (hv : v = v') (h : WS P ops Q os (upd r d v') w) : WS P ops Q os r w := by
  rwa [upd_self (by rw [hb, hv])] at h
end
end Go.Proofs.Ytiffedgmageiaaa.B

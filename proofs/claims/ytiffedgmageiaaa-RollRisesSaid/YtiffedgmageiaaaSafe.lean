/- Longs that never go round: what is reckoned in words of 64 bits. -/
import Derived.Test.YtiffedgmageiaaaNum
import Derived.Test.YtiffedgmageiaaaStruct
import Derived.Test.YtiffedgmageiaaaMoreQ
import Derived.Laws.MathBits
import Derived.Laws.Externs
namespace Go.Proofs.Ytiffedgmageiaaa.B
open Go.Proofs Go.RowKit
set_option linter.unusedVariables false
set_option linter.unusedSimpArgs false
section
variable {P : Program} {ops : Array Oper} {Q : Exit → Regs → World → Prop} {r : Regs} {w : World} {os : List Oper}
variable {d : Nat} {ty : TypeId} {pos : String} {aft : Array Edge} {g : Option (Nat × Bool)}
variable {t t' : TypeId} {x y : Operand} {k : IntKind} {m n : Int}

/-- A call of a function that the model itself answers. -/
theorem S.callX {f : FuncId} {as : List Operand} {at_ : Array TypeId} {vs : List Value} {v : Value} (ha : as.map (ev r) = vs)
    (hF : (callFunc f vs.toArray).run P w = .ok (.value v) w) (hw : wantR ⟨some d, .call { callee := .value (.func f), args := as.toArray, argTypes := at_ }, ty, pos, aft, g⟩ ops r = true)
    (h : WS P ops Q os (upd r d v) w) : WS P ops Q (⟨some d, .call { callee := .value (.func f), args := as.toArray, argTypes := at_ }, ty, pos, aft, g⟩ :: os) r w := by
  subst ha
  refine S.val hw ?_ h
  simp only [execOp, resolve, ev, Deferred.ofValue, invoke, pure_bind, List.map_toArray]
  simpa [Sem.run_bind] using hF
theorem S.andLow (hx : ev r x = .int .u64 m) (hy : ev r y = .int .u64 4294967295) (hw : wantR ⟨some d, .binOp .and t x y t', ty, pos, aft, g⟩ ops r = true) (hb : 0 ≤ m ∧ m < 18446744073709551616)
    (h : WS P ops Q os (upd r d (.int .u64 (m % 4294967296))) w) : WS P ops Q (⟨some d, .binOp .and t x y t', ty, pos, aft, g⟩ :: os) r w :=
  S.and hx hy hw (by rw [and_low32 m hb.1 hb.2]; exact h)
theorem S.indexStr {s : ByteArray} {i : Int} {b : UInt8} (ht : P.underlying t = some .string) (hx : ev r x = .string s) (hy : ev r y = .int k i) (hi : 0 ≤ i) (hb : s[i.toNat]? = some b)
    (hw : wantR ⟨some d, .index t x y, ty, pos, aft, g⟩ ops r = true)
    (h : WS P ops Q os (upd r d (.int .u8 b.toNat)) w) : WS P ops Q (⟨some d, .index t x y, ty, pos, aft, g⟩ :: os) r w := by
  refine S.val hw ?_ h
  simp only [execOp, hx, hy, Instr.index, asIntOf, pure_bind, Sem.run_bind, run_underlying ht, Result.andThen_ok, Sem.run_pure, if_pos hi, hb]
end
section
variable {P : Program} {ops : Array Oper} {Q : Exit → Regs → World → Prop} {r : Regs} {w : World} {os : List Oper}
variable {d : Nat} {ty : TypeId} {pos : String} {aft : Array Edge} {g : Option (Nat × Bool)}
variable {t t' : TypeId} {x y : Operand} {k : IntKind} {m n : Int}
theorem len8 (i : Nat) (h : i < 256) (s : ByteArray) (hs : s.size = 256) (all : ∀ j : Fin 256, s[j.val]? = some (bitLen j.val).toUInt8) : s[i]? = some (bitLen i).toUInt8 := all ⟨i, h⟩
theorem bitLen8 (i : Nat) (h : i < 256) : ((bitLen i).toUInt8.toNat : Int) = bitLen i := by
  have := bitLen_le8 i h
  have e : (bitLen i).toUInt8.toNat = bitLen i % 256 := by simp [Nat.toUInt8]
  rw [e, Nat.mod_eq_of_lt (by omega)]
theorem S.indexLen {s : ByteArray} {i : Int} (ht : P.underlying t = some .string) (hx : ev r x = .string s) (hy : ev r y = .int k i) (hi : 0 ≤ i) (hi' : i < 256) (hs : s.size = 256) (all : ∀ j : Fin 256, s[j.val]? = some (bitLen j.val).toUInt8)
    (hw : wantR ⟨some d, .index t x y, ty, pos, aft, g⟩ ops r = true)
    (h : ∀ yy : Int, yy = i → bitLen yy.toNat ≤ 8 → WS P ops Q os (upd r d (.int .u8 (bitLen yy.toNat))) w) : WS P ops Q (⟨some d, .index t x y, ty, pos, aft, g⟩ :: os) r w := by
  have hn : i.toNat < 256 := by omega
  refine S.indexStr ht hx hy hi (len8 i.toNat hn s hs all) hw ?_
  rw [bitLen8 _ hn]
  exact h i rfl (bitLen_le8 _ hn)
end
theorem wrap_u64m (n : Int) : IntKind.u64.wrap n = n % 18446744073709551616 := by simp [IntKind.wrap, IntKind.bits, IntKind.signed]
theorem wrap_i64m (n : Int) : IntKind.i64.wrap n = (n + 9223372036854775808) % 18446744073709551616 - 9223372036854775808 := by
  simp [IntKind.wrap, IntKind.bits, IntKind.signed]
  split <;> omega
def fits (z : Int) : Prop := -9223372036854775808 ≤ z ∧ z ≤ 9223372036854775807
instance (z : Int) : Decidable (fits z) := by unfold fits; infer_instance
/-- A number as a long, and no fault; or 0 and the fault that tells of it. -/
def told (z : Int) : Value := .tuple #[.int .i64 (if fits z then z else 0), .int .i64 (if fits z then 0 else 12)]
theorem told_in {z : Int} (h : fits z) : told z = .tuple #[.int .i64 z, .int .i64 0] := by unfold told; rw [if_pos h, if_pos h]
theorem told_out {z : Int} (h : ¬ fits z) : told z = .tuple #[.int .i64 0, .int .i64 12] := by unfold told; rw [if_neg h, if_neg h]
def mag (z : Int) : Int := if z < 0 then -z else z
theorem mag_nonneg (z : Int) : 0 ≤ mag z := by unfold mag; split <;> omega
theorem mag_le {z : Int} (h : fits z) : mag z ≤ 9223372036854775808 := by unfold mag fits at *; split <;> omega
theorem prod64 {a b : Int} (ha : 0 ≤ a) (hb : 0 ≤ b) (ha' : a ≤ 9223372036854775808) (hb' : b ≤ 9223372036854775808) : 0 ≤ a * b ∧ a * b ≤ 85070591730234615865843651857942052864 := by
  refine ⟨Int.mul_nonneg ha hb, ?_⟩
  have := Int.mul_le_mul ha' hb' hb (by omega : (0 : Int) ≤ 9223372036854775808)
  simpa using this
theorem mag_mul (a b : Int) : a * b = if (!(decide (a < 0) == decide (b < 0))) = true then - (mag a * mag b) else mag a * mag b := by
  unfold mag
  by_cases ha : a < 0 <;> by_cases hb : b < 0 <;> simp [ha, hb] <;> grind
/-! ### How many bits -/
theorem bitLen_pow {x y a : Nat} (h : y = x / 2 ^ a) (hy : y ≠ 0 ∨ a = 0) : bitLen x = a + bitLen y := by
  rcases hy with hy | rfl
  · subst h; exact bitLen_shift x a hy
  · simp at h; subst h; simp
theorem tup2 {a b a' b' : Value} (h : a = a') (h' : b = b') : Value.tuple #[a, b] = .tuple #[a', b'] := by rw [h, h']
theorem mag_neg {a : Int} (h : a < 0) (hl : -9223372036854775808 ≤ a) : IntKind.u64.wrap (0 - IntKind.u64.wrap a) = mag a := by
  rw [wrap_u64m, wrap_u64m]; unfold mag; rw [if_pos h]; omega
theorem mag_pos {a : Int} (h : ¬ a < 0) : a = mag a := by unfold mag; rw [if_neg h]
theorem bitLen_64 {a : Int} (h : 0 ≤ a ∧ a < 18446744073709551616) : bitLen a.toNat ≤ 64 := by
  unfold bitLen
  split
  · omega
  · rename_i h0
    have := (Nat.log2_lt h0).2 (show a.toNat < 2 ^ 64 by have : (2:Nat)^64 = 18446744073709551616 := rfl; omega)
    omega
theorem len64_fin (K q : Nat) (hq : 2 ^ K = q) {a y z : Int} (yy : Int) (hyy : yy = y) (hy : y.toNat = a.toNat / q) (hne : K = 0 ∨ 0 < y) (hz : z = K + bitLen yy.toNat) : z = bitLen a.toNat := by
  subst hyy
  subst hq
  have := bitLen_pow hy (by omega)
  omega
theorem mul64_hi {a b : Int} (ha : 0 ≤ a ∧ a < 18446744073709551616) (hb : 0 ≤ b ∧ b < 18446744073709551616) :
    a / 4294967296 * (b / 4294967296) + (a / 4294967296 * (b % 4294967296) + a % 4294967296 * (b % 4294967296) / 4294967296) / 4294967296 + ((a / 4294967296 * (b % 4294967296) + a % 4294967296 * (b % 4294967296) / 4294967296) % 4294967296 + a % 4294967296 * (b / 4294967296)) / 4294967296 = a * b / 18446744073709551616 := by
  have hA := prod_bound (a / 4294967296) (b / 4294967296) (by omega) (by omega) (by omega) (by omega)
  have hB := prod_bound (a / 4294967296) (b % 4294967296) (by omega) (by omega) (by omega) (by omega)
  have hC := prod_bound (a % 4294967296) (b % 4294967296) (by omega) (by omega) (by omega) (by omega)
  have hD := prod_bound (a % 4294967296) (b / 4294967296) (by omega) (by omega) (by omega) (by omega)
  have e : a * b = a / 4294967296 * (b / 4294967296) * 18446744073709551616 + (a / 4294967296 * (b % 4294967296) + a % 4294967296 * (b / 4294967296)) * 4294967296 + a % 4294967296 * (b % 4294967296) := by
    have := split_mul (a / 4294967296) (a % 4294967296) (b / 4294967296) (b % 4294967296)
    rw [← this]
    congr 1 <;> omega
  rw [e]
  generalize a / 4294967296 * (b / 4294967296) = A at *
  generalize a / 4294967296 * (b % 4294967296) = B at *
  generalize a % 4294967296 * (b % 4294967296) = C at *
  generalize a % 4294967296 * (b / 4294967296) = D at *
  omega
/-! ### A quotient's half, after Knuth -/
structure Kn1 (y1 y0 u v q r : Int) : Prop where
  sum : r + q * y1 = u
  rlo : 0 ≤ r
  rhi : r < 4294967296
  least : (u * 4294967296 + v) / (y1 * 4294967296 + y0) ≤ q
  most : q ≤ 4294967297
variable {y1 y0 u v q r : Int}
structure KnP (y1 y0 u v : Int) : Prop where
  a1 : 2147483648 ≤ y1
  a2 : y1 < 4294967296
  b1 : 0 ≤ y0
  b2 : y0 < 4294967296
  c1 : 0 ≤ u
  c2 : u < y1 * 4294967296 + y0
  d1 : 0 ≤ v
  d2 : v < 4294967296
theorem KnP.quot (h : KnP y1 y0 u v) : 0 ≤ (u * 4294967296 + v) / (y1 * 4294967296 + y0) ∧ (u * 4294967296 + v) / (y1 * 4294967296 + y0) < 4294967296 := by
  obtain ⟨a1, a2, b1, b2, c1, c2, d1, d2⟩ := h
  refine ⟨Int.ediv_nonneg (by omega) (by omega), Int.ediv_lt_of_lt_mul (by omega) ?_⟩
  omega
theorem KnP.start (h : KnP y1 y0 u v) : Kn1 y1 y0 u v (u / y1) (u - u / y1 * y1) := by
  have hq := h.quot
  obtain ⟨a1, a2, b1, b2, c1, c2, d1, d2⟩ := h
  have e := Int.emod_add_mul_ediv u y1
  have e1 := Int.emod_nonneg u (show y1 ≠ 0 by omega)
  have e2 := Int.emod_lt_of_pos u (show 0 < y1 by omega)
  have ec : y1 * (u / y1) = u / y1 * y1 := Int.mul_comm _ _
  have e3 : 0 ≤ u / y1 := Int.ediv_nonneg c1 (by omega)
  generalize u / y1 = q at *
  refine ⟨by omega, by omega, by omega, ?_, ?_⟩
  · refine Int.le_of_lt_add_one (Int.ediv_lt_of_lt_mul (by omega) ?_)
    have ex : (q + 1) * (y1 * 4294967296 + y0) = q * y1 * 4294967296 + y1 * 4294967296 + q * y0 + y0 := by grind
    have := Int.mul_nonneg e3 b1
    omega
  · refine Int.not_lt.1 fun hh => ?_
    have := Int.mul_le_mul_of_nonneg_right (show 4294967298 ≤ q by omega) (show 0 ≤ y1 by omega)
    omega
theorem Kn1.step (h : KnP y1 y0 u v) (k : Kn1 y1 y0 u v q r) (hc : 4294967296 ≤ q ∨ 4294967296 * r + v < q * y0) (hr : r + y1 < 4294967296) : Kn1 y1 y0 u v (q - 1) (r + y1) := by
  have hq := h.quot
  obtain ⟨a1, a2, b1, b2, c1, c2, d1, d2⟩ := h
  obtain ⟨s1, s2, s3, s4, s5⟩ := k
  have ex : (q - 1) * y1 = q * y1 - y1 := by grind
  refine ⟨by omega, by omega, hr, ?_, by omega⟩
  rcases hc with hc | hc
  · omega
  · have : (u * 4294967296 + v) / (y1 * 4294967296 + y0) < q := by
      refine Int.ediv_lt_of_lt_mul (by omega) ?_
      have ex : q * (y1 * 4294967296 + y0) = q * y1 * 4294967296 + q * y0 := by grind
      omega
    omega
theorem Kn1.done1 (h : KnP y1 y0 u v) (k : Kn1 y1 y0 u v q r) (hc : ¬ 4294967296 * r + v < q * y0) : q = (u * 4294967296 + v) / (y1 * 4294967296 + y0) := by
  have hq := h.quot
  obtain ⟨a1, a2, b1, b2, c1, c2, d1, d2⟩ := h
  obtain ⟨s1, s2, s3, s4, s5⟩ := k
  refine Int.le_antisymm ((Int.le_ediv_iff_mul_le (by omega)).2 ?_) s4
  have ex : q * (y1 * 4294967296 + y0) = q * y1 * 4294967296 + q * y0 := by grind
  omega
theorem Kn1.done2 (h : KnP y1 y0 u v) (k : Kn1 y1 y0 u v q r) (hc : 4294967296 ≤ q ∨ 4294967296 * r + v < q * y0) (hr : 4294967296 ≤ r + y1) : q - 1 = (u * 4294967296 + v) / (y1 * 4294967296 + y0) := by
  have hq := h.quot
  obtain ⟨a1, a2, b1, b2, c1, c2, d1, d2⟩ := h
  obtain ⟨s1, s2, s3, s4, s5⟩ := k
  have ex : (q - 1) * y1 = q * y1 - y1 := by grind
  have least : (u * 4294967296 + v) / (y1 * 4294967296 + y0) ≤ q - 1 := by
    rcases hc with hc | hc
    · omega
    · have : (u * 4294967296 + v) / (y1 * 4294967296 + y0) < q := by
        refine Int.ediv_lt_of_lt_mul (by omega) ?_
        have ex : q * (y1 * 4294967296 + y0) = q * y1 * 4294967296 + q * y0 := by grind
        omega
      omega
  refine Int.le_antisymm ((Int.le_ediv_iff_mul_le (by omega)).2 ?_) least
  have ex : (q - 1) * (y1 * 4294967296 + y0) = (q - 1) * y1 * 4294967296 + (q - 1) * y0 := by grind
  have hlt : q - 1 < 4294967296 := by
    refine Int.not_le.1 fun hh => ?_
    have := Int.mul_le_mul_of_nonneg_right hh (show 0 ≤ y1 by omega)
    omega
  have := prod_bound (q - 1) y0 (by omega) (by omega) b1 (by omega)
  have : (q - 1) * y0 ≤ 4294967295 * 4294967295 := by omega
  omega
/-- A whole quotient, of its two halves. -/
theorem knuth {N y p u v1 v0 : Int} (hy : 0 < y) (hp : 0 < p) (hM : N * p = (u * 4294967296 + v1) * 4294967296 + v0) {q1 q0 R1 R0 : Int} (hq1 : q1 = (u * 4294967296 + v1) / (y * p)) (hR1 : R1 = u * 4294967296 + v1 - q1 * (y * p))
    (hq0 : q0 = (R1 * 4294967296 + v0) / (y * p)) (hR0 : R0 = R1 * 4294967296 + v0 - q0 * (y * p)) : q1 * 4294967296 + q0 = N / y ∧ R0 / p = N % y := by
  have hY : 0 < y * p := Int.mul_pos hy hp
  have e1 := Int.emod_add_mul_ediv (R1 * 4294967296 + v0) (y * p)
  have e2 := Int.emod_nonneg (R1 * 4294967296 + v0) (show y * p ≠ 0 by omega)
  have e3 := Int.emod_lt_of_pos (R1 * 4294967296 + v0) hY
  rw [← hq0, Int.mul_comm (y * p) q0] at e1
  have hR : R0 = (R1 * 4294967296 + v0) % (y * p) := by omega
  have hM2 : N * p = R0 + (y * p) * (q1 * 4294967296 + q0) := by
    have : (y * p) * (q1 * 4294967296 + q0) = q1 * (y * p) * 4294967296 + q0 * (y * p) := by grind
    omega
  have hd : N * p / (y * p) = q1 * 4294967296 + q0 := by
    rw [hM2, Int.add_mul_ediv_left _ _ (by omega), Int.ediv_eq_zero_of_lt (by omega) (by omega), Int.zero_add]
  rw [Int.mul_ediv_mul_of_pos_left _ _ hp] at hd
  refine ⟨hd.symm, ?_⟩
  have e4 := Int.emod_add_mul_ediv N y
  rw [hd] at e4
  have : R0 = (N % y) * p := by
    have : (N % y + y * (q1 * 4294967296 + q0)) * p = (N % y) * p + (y * p) * (q1 * 4294967296 + q0) := by grind
    rw [e4] at this
    omega
  rw [this]; exact Int.mul_ediv_cancel _ (by omega)
/-! ### The words moved up -/
theorem or_add (a b : Nat) (c : Nat) (hb : b < 2 ^ c) (h : a * 2 ^ c + b < 18446744073709551616) : bits .or .u64 ((a * 2 ^ c : Nat) : Int) (b : Int) = ((a * 2 ^ c + b : Nat) : Int) := by
  have e : a * 2 ^ c ||| b = a * 2 ^ c + b := by
    have := Nat.shiftLeft_add_eq_or_of_lt hb a
    rw [Nat.shiftLeft_eq] at this; exact this.symm
  have h1 : a * 2 ^ c < 2 ^ 64 := by have : (2:Nat)^64 = 18446744073709551616 := rfl; omega
  have h2 : b < 2 ^ 64 := by have : (2:Nat)^64 = 18446744073709551616 := rfl; omega
  unfold bits
  simp only [IntKind.bits, BitVec.ofInt_natCast]
  rw [wrap_u64m]
  have : ((BitVec.ofNat 64 (a * 2 ^ c) ||| BitVec.ofNat 64 b : BitVec 64)).toNat = a * 2 ^ c + b := by
    rw [BitVec.toNat_or, BitVec.toNat_ofNat, BitVec.toNat_ofNat, Nat.mod_eq_of_lt h1, Nat.mod_eq_of_lt h2, e]
  exact (congrArg (fun z : Nat => (z : Int) % 18446744073709551616) this).trans (Int.emod_eq_of_lt (by omega) (by omega))
structure Up (hi lo y : Int) (s : Nat) (p g : Int) : Prop where
  ep : p = 2 ^ s
  eg : g = 2 ^ (64 - s)
  le : s ≤ 63
  pg : p * g = 18446744073709551616
  p1 : 1 ≤ p
  g1 : 2 ≤ g
  y1 : g ≤ 2 * y
  y2 : y < g
theorem Up.mk' {hi lo y : Int} {n : Nat} (h1 : 1 ≤ n) (h2 : n ≤ 64) (hy : y < 2 ^ n) (hy' : 2 ^ (n - 1) ≤ y) : Up hi lo y (64 - n) (2 ^ (64 - n)) (2 ^ n) := by
  have e : (2:Int) ^ n = 2 * 2 ^ (n - 1) := by
    obtain ⟨m, rfl⟩ : ∃ m, n = m + 1 := ⟨n - 1, by omega⟩
    rw [Int.pow_succ, Nat.add_sub_cancel, Int.mul_comm]
  have q1 : (0:Int) < 2 ^ (n - 1) := Int.pow_pos (by omega)
  have q2 : (0:Int) < 2 ^ (64 - n) := Int.pow_pos (by omega)
  refine ⟨rfl, by rw [show 64 - (64 - n) = n by omega], by omega, ?_, by omega, by omega, by omega, hy⟩
  rw [← Int.pow_add, show 64 - n + n = 64 by omega]; rfl
theorem Up.of {hi lo y : Int} (h0 : 0 < y) (hy : y < 18446744073709551616) : ∃ (s : Nat) (p g : Int), 64 - (bitLen y.toNat : Int) = (s : Int) ∧ Up hi lo y s p g := by
  have h1 := bitLen_spec y.toNat
  have h2 := bitLen_64 (a := y) ⟨by omega, hy⟩
  have h3 : 1 ≤ bitLen y.toNat := by
    refine Nat.one_le_iff_ne_zero.2 fun h => ?_
    rw [h] at h1; have := h1.1; simp at this; omega
  have e : ((y.toNat : Nat) : Int) = y := by omega
  have h4 : y < 2 ^ bitLen y.toNat := by
    have := h1.1; rw [← Int.ofNat_lt, e] at this; simpa using this
  have h5 : 2 ^ (bitLen y.toNat - 1) ≤ y := by
    have := h1.2 (by omega); rw [← Int.ofNat_le, e] at this; simpa using this
  exact ⟨64 - bitLen y.toNat, _, _, by omega, Up.mk' h3 h2 h4 h5⟩
variable {hi lo y p g : Int} {s : Nat}
theorem Up.big (h : Up hi lo y s p g) : 9223372036854775808 ≤ y * p ∧ y * p < 18446744073709551616 := by
  have h1 := Int.mul_le_mul_of_nonneg_left h.y1 (show 0 ≤ p by have := h.p1; omega)
  have h2 := Int.mul_lt_mul_of_pos_left h.y2 (show 0 < p by have := h.p1; omega)
  rw [h.pg] at h1 h2
  have e : p * (2 * y) = 2 * (y * p) := by grind
  have e2 : p * y = y * p := Int.mul_comm _ _
  omega
theorem Up.pow (h : Up hi lo y s p g) : (2 : Int) ^ (min ((s : Int)).toNat IntKind.u64.bits) = p := by
  have := h.le
  rw [h.ep, Int.toNat_natCast, show min s IntKind.u64.bits = s from Nat.min_eq_left (by show s ≤ 64; omega)]
theorem Up.pow' (h : Up hi lo y s p g) : (2 : Int) ^ (min (64 - (s : Int)).toNat IntKind.u64.bits) = g := by
  have := h.le
  rw [h.eg, show (64 - (s : Int)).toNat = 64 - s by omega, show min (64 - s) IntKind.u64.bits = 64 - s from Nat.min_eq_left (by show 64 - s ≤ 64; omega)]
theorem Up.mulp (h : Up hi lo y s p g) {z : Int} (h0 : 0 ≤ z) (h1 : z < g) : 0 ≤ z * p ∧ z * p + p ≤ 18446744073709551616 := by
  have := h.p1
  have h2 := Int.mul_le_mul_of_nonneg_left (show z + 1 ≤ g by omega) (show 0 ≤ p by omega)
  rw [h.pg] at h2
  have e : p * (z + 1) = z * p + p := by grind
  exact ⟨Int.mul_nonneg h0 (by omega), by omega⟩
theorem Up.shl (h : Up hi lo y s p g) {z : Int} (h0 : 0 ≤ z) (h1 : z < g) : IntKind.u64.wrap (z * 2 ^ (min ((s : Int)).toNat IntKind.u64.bits)) = z * p := by
  have := h.mulp h0 h1
  have := h.p1
  rw [h.pow]
  exact wrap_u64 (by omega) (by omega)
theorem Up.shr (h : Up hi lo y s p g) {z : Int} : z.fdiv (2 ^ (min ((s : Int)).toNat IntKind.u64.bits)) = z / p := by
  have := h.p1
  rw [h.pow, Int.fdiv_eq_ediv_of_nonneg _ (by omega)]
theorem Up.shr' (h : Up hi lo y s p g) {z : Int} : z.fdiv (2 ^ (min (64 - (s : Int)).toNat IntKind.u64.bits)) = z / g := by
  have := h.g1
  rw [h.pow', Int.fdiv_eq_ediv_of_nonneg _ (by omega)]
/-- The number, moved up, in two words. -/
theorem Up.words (h : Up hi lo y s p g) (h0 : 0 ≤ hi ∧ hi < y) (hl : 0 ≤ lo ∧ lo < 18446744073709551616) : ∃ u v : Int, bits .or .u64 (hi * p) (lo / g) = u ∧ IntKind.u64.wrap (lo * 2 ^ (min ((s : Int)).toNat IntKind.u64.bits)) = v ∧
    (hi * 18446744073709551616 + lo) * p = u * 18446744073709551616 + v ∧ 0 ≤ u ∧ u < y * p ∧ 0 ≤ v ∧ v < 18446744073709551616 := by
  have p1 := h.p1
  have g1 := h.g1
  have y2 := h.y2
  have a1 := h.mulp h0.1 (show hi < g by omega)
  have q0 : 0 ≤ lo / g := Int.ediv_nonneg hl.1 (by omega)
  have q1 : lo / g < p := Int.ediv_lt_of_lt_mul (by omega) (by rw [h.pg]; exact hl.2)
  have m0 := Int.emod_nonneg lo (show g ≠ 0 by omega)
  have m1 := Int.emod_lt_of_pos lo (show 0 < g by omega)
  have me := Int.emod_add_mul_ediv lo g
  have a2 := h.mulp m0 m1
  have hw : IntKind.u64.wrap (lo * 2 ^ (min ((s : Int)).toNat IntKind.u64.bits)) = lo % g * p := by
    rw [h.pow, wrap_u64m]
    have e : lo * p = lo % g * p + 18446744073709551616 * (lo / g) := by
      have : (lo % g + g * (lo / g)) * p = lo % g * p + p * g * (lo / g) := by grind
      rw [me, h.pg] at this; exact this
    rw [e, Int.add_mul_emod_self_left]
    exact Int.emod_eq_of_lt (by omega) (by omega)
  have ho : bits .or .u64 (hi * p) (lo / g) = hi * p + lo / g := by
    obtain ⟨H, rfl⟩ := Int.eq_ofNat_of_zero_le h0.1
    obtain ⟨D, hD⟩ := Int.eq_ofNat_of_zero_le q0
    rw [hD] at q1 ⊢
    have ep := h.ep
    have e : ((H : Int) * p) = ((H * 2 ^ s : Nat) : Int) := by rw [ep]; simp
    rw [e] at a1 ⊢
    have := or_add H D s (by rw [ep] at q1; exact_mod_cast q1) (by omega)
    rw [this]; simp
  refine ⟨_, _, ho, hw, ?_, by omega, ?_, by omega, by omega⟩
  · have : (hi * 18446744073709551616 + (lo % g + g * (lo / g))) * p = hi * p * 18446744073709551616 + lo % g * p + p * g * (lo / g) := by grind
    rw [me, h.pg] at this
    omega
  · have h2 := Int.mul_le_mul_of_nonneg_left (show hi + 1 ≤ y by omega) (show 0 ≤ p by omega)
    have e : p * (hi + 1) = hi * p + p := by grind
    have e2 : p * y = y * p := Int.mul_comm _ _
    omega
theorem KnP.of {Y u v : Int} (h1 : 9223372036854775808 ≤ Y) (h2 : Y < 18446744073709551616) (h3 : 0 ≤ u) (h4 : u < Y) (h5 : 0 ≤ v) (h6 : v < 4294967296) : KnP (Y / 4294967296) (Y % 4294967296) u v :=
  ⟨by omega, by omega, by omega, by omega, h3, by omega, h5, h6⟩
theorem Kn1.pos {y1 y0 u v q r : Int} (h : KnP y1 y0 u v) (k : Kn1 y1 y0 u v q r) (hc : 4294967296 ≤ q ∨ 4294967296 * r + v < q * y0) : 1 ≤ q := by
  have := h.quot
  have := k.least
  rcases hc with hc | hc
  · omega
  · refine Int.not_lt.1 fun hh => ?_
    obtain rfl : q = 0 := by omega
    have := k.rlo; have := h.d1
    omega
theorem Kn1.nonneg {y1 y0 u v q r : Int} (h : KnP y1 y0 u v) (k : Kn1 y1 y0 u v q r) : 0 ≤ q := by
  have := h.quot
  have := k.least
  omega
theorem quo_mul {u y : Int} (h0 : 0 ≤ u) (h1 : 0 < y) : 0 ≤ u / y * y ∧ u / y * y ≤ u := by
  have e := Int.emod_add_mul_ediv u y
  have e1 := Int.emod_nonneg u (show y ≠ 0 by omega)
  have e2 : 0 ≤ u / y := Int.ediv_nonneg h0 (by omega)
  have e3 : y * (u / y) = u / y * y := Int.mul_comm _ _
  exact ⟨Int.mul_nonneg e2 (by omega), by omega⟩
theorem rest_of {a Y q : Int} (hY : 0 < Y) (hq : q = a / Y) : 0 ≤ a - q * Y ∧ a - q * Y < Y := by
  have e := Int.emod_add_mul_ediv a Y
  have e1 := Int.emod_nonneg a (show Y ≠ 0 by omega)
  have e2 := Int.emod_lt_of_pos a hY
  have e3 : Y * (a / Y) = q * Y := by rw [hq]; exact Int.mul_comm _ _
  omega
theorem wrap3 {a b c z : Int} (hz : z = a + b - c) (h0 : 0 ≤ z) (h1 : z < 18446744073709551616) : IntKind.u64.wrap (IntKind.u64.wrap (IntKind.u64.wrap a + b) - IntKind.u64.wrap c) = z := by
  rw [wrap_u64m, wrap_u64m, wrap_u64m, wrap_u64m]; omega
/-! ### Sums, products and ratios -/
theorem add_out {a b : Int} (ha : fits a) (hb : fits b) (h1 : (decide (a ≥ 0) == decide (b ≥ 0)) = true) (h2 : (!(decide (IntKind.i64.wrap (a + b) ≥ 0) == decide (a ≥ 0))) = true) : Value.tuple #[.int .i64 0, .int .i64 12] = told (a + b) := by
  rw [wrap_i64m] at h2
  simp only [beq_iff_eq, decide_eq_decide, Bool.not_eq_true', beq_eq_false_iff_ne, ne_eq] at h1 h2
  unfold fits at ha hb
  exact (told_out (by unfold fits; omega)).symm
theorem add_in1 {a b : Int} (ha : fits a) (hb : fits b) (h2 : (!(decide (IntKind.i64.wrap (a + b) ≥ 0) == decide (a ≥ 0))) = false) : Value.tuple #[.int .i64 (IntKind.i64.wrap (a + b)), .int .i64 0] = told (a + b) := by
  rw [wrap_i64m] at h2 ⊢
  simp only [Bool.not_eq_false', beq_iff_eq, decide_eq_decide] at h2
  unfold fits at ha hb
  rw [told_in (by unfold fits; omega)]
  exact tup2 (congrArg (Value.int .i64) (by omega)) rfl
theorem add_in2 {a b : Int} (ha : fits a) (hb : fits b) (h1 : (decide (a ≥ 0) == decide (b ≥ 0)) = false) : Value.tuple #[.int .i64 (IntKind.i64.wrap (a + b)), .int .i64 0] = told (a + b) := by
  rw [wrap_i64m]
  simp only [beq_eq_false_iff_ne, ne_eq, decide_eq_decide] at h1
  unfold fits at ha hb
  rw [told_in (by unfold fits; omega)]
  exact tup2 (congrArg (Value.int .i64) (by omega)) rfl
theorem sub_out {a b : Int} (ha : fits a) (hb : fits b) (h1 : (!(decide (a ≥ 0) == decide (b ≥ 0))) = true) (h2 : (!(decide (IntKind.i64.wrap (a - b) ≥ 0) == decide (a ≥ 0))) = true) : Value.tuple #[.int .i64 0, .int .i64 12] = told (a - b) := by
  rw [wrap_i64m] at h2
  simp only [beq_iff_eq, decide_eq_decide, Bool.not_eq_true', beq_eq_false_iff_ne, ne_eq] at h1 h2
  unfold fits at ha hb
  exact (told_out (by unfold fits; omega)).symm
theorem sub_in1 {a b : Int} (ha : fits a) (hb : fits b) (h2 : (!(decide (IntKind.i64.wrap (a - b) ≥ 0) == decide (a ≥ 0))) = false) : Value.tuple #[.int .i64 (IntKind.i64.wrap (a - b)), .int .i64 0] = told (a - b) := by
  rw [wrap_i64m] at h2 ⊢
  simp only [Bool.not_eq_false', beq_iff_eq, decide_eq_decide] at h2
  unfold fits at ha hb
  rw [told_in (by unfold fits; omega)]
  exact tup2 (congrArg (Value.int .i64) (by omega)) rfl
theorem sub_in2 {a b : Int} (ha : fits a) (hb : fits b) (h1 : (!(decide (a ≥ 0) == decide (b ≥ 0))) = false) : Value.tuple #[.int .i64 (IntKind.i64.wrap (a - b)), .int .i64 0] = told (a - b) := by
  rw [wrap_i64m]
  simp only [Bool.not_eq_false', beq_iff_eq, decide_eq_decide] at h1
  unfold fits at ha hb
  rw [told_in (by unfold fits; omega)]
  exact tup2 (congrArg (Value.int .i64) (by omega)) rfl
theorem long_neg {hi lo : Int} (h : hi = 0) (h0 : 0 ≤ lo) (h1 : lo ≤ 9223372036854775808) : Value.tuple #[.int .i64 (IntKind.i64.wrap (IntKind.u64.wrap (0 - lo))), .int .i64 0] = told (-(hi * 18446744073709551616 + lo)) := by
  subst h
  rw [wrap_i64m, wrap_u64m, told_in (by unfold fits; omega)]
  exact tup2 (congrArg (Value.int .i64) (by omega)) rfl
theorem long_pos {hi lo : Int} (h : hi = 0) (h0 : 0 ≤ lo) (h1 : lo < 9223372036854775808) : Value.tuple #[.int .i64 lo, .int .i64 0] = told (hi * 18446744073709551616 + lo) := by
  subst h
  rw [told_in (by unfold fits; omega)]
  exact tup2 (congrArg (Value.int .i64) (by omega)) rfl
theorem long_prod (a b : Int) : (if (!(decide (a < 0) == decide (b < 0))) = true then -(mag a * mag b / 18446744073709551616 * 18446744073709551616 + mag a * mag b % 18446744073709551616) else mag a * mag b / 18446744073709551616 * 18446744073709551616 + mag a * mag b % 18446744073709551616) = a * b := by
  rw [mag_mul a b]
  have : mag a * mag b / 18446744073709551616 * 18446744073709551616 + mag a * mag b % 18446744073709551616 = mag a * mag b := by omega
  rw [this]
theorem sum_step {xs : List Int} {i : Nat} {u hi lo : Int} (hu : xs[(i : Int).toNat]? = some u) (hi0 : i < xs.length) (hl : i ≤ xs.length) (hlo : 0 ≤ lo ∧ lo < 18446744073709551616) (hs : hi * 18446744073709551616 + lo = (xs.take i).sum) (hb1 : -(i : Int) ≤ hi) (hb2 : hi ≤ i)
    (hf : -9223372036854775808 ≤ u ∧ u ≤ 9223372036854775807) (hm : xs.length ≤ 1000000) : i + 1 ≤ xs.length ∧ (0 ≤ (lo + u % 18446744073709551616 + 0) % 18446744073709551616 ∧ (lo + u % 18446744073709551616 + 0) % 18446744073709551616 < 18446744073709551616) ∧
      (hi + (u / 9223372036854775808 + (lo + u % 18446744073709551616 + 0) / 18446744073709551616)) * 18446744073709551616 + (lo + u % 18446744073709551616 + 0) % 18446744073709551616 = (xs.take (i + 1)).sum ∧
      -((i + 1 : Nat) : Int) ≤ hi + (u / 9223372036854775808 + (lo + u % 18446744073709551616 + 0) / 18446744073709551616) ∧ hi + (u / 9223372036854775808 + (lo + u % 18446744073709551616 + 0) / 18446744073709551616) ≤ ((i + 1 : Nat) : Int) := by
  have hu' : xs[i]? = some u := hu
  have e : (xs.take (i + 1)).sum = (xs.take i).sum + u := by
    rw [List.take_add_one, hu', List.sum_append]; simp
  rw [e, ← hs]
  refine ⟨by omega, by omega, by omega, by omega, by omega⟩
theorem sum_out {xs : List Int} {i : Nat} {hi lo : Int} (hi1 : ¬ (i : Int) < xs.length) (hl : i ≤ xs.length) (hlo : 0 ≤ lo ∧ lo < 18446744073709551616) (hs : hi * 18446744073709551616 + lo = (xs.take i).sum) (hb1 : -(i : Int) ≤ hi) (hb2 : hi ≤ i)
    (hc : hi ≠ IntKind.i64.wrap lo / 9223372036854775808) : Value.tuple #[.int .i64 0, .int .i64 12] = told xs.sum := by
  rw [List.take_of_length_le (by omega)] at hs
  rw [wrap_i64m] at hc
  exact (told_out (by unfold fits; omega)).symm
theorem sum_in {xs : List Int} {i : Nat} {hi lo : Int} (hi1 : ¬ (i : Int) < xs.length) (hl : i ≤ xs.length) (hlo : 0 ≤ lo ∧ lo < 18446744073709551616) (hs : hi * 18446744073709551616 + lo = (xs.take i).sum) (hb1 : -(i : Int) ≤ hi) (hb2 : hi ≤ i)
    (hc : ¬ hi ≠ IntKind.i64.wrap lo / 9223372036854775808) : Value.tuple #[.int .i64 (IntKind.i64.wrap lo), .int .i64 0] = told xs.sum := by
  rw [List.take_of_length_le (by omega)] at hs
  rw [wrap_i64m] at hc ⊢
  rw [told_in (by unfold fits; omega)]
  exact tup2 (congrArg (Value.int .i64) (by omega)) rfl
/-- A quotient, up or down. -/
def quot (n c : Int) (up : Bool) : Int := if up = true then -(-n / c) else n / c
theorem neg_ediv (P c : Int) (hc : 0 < c) : -P / c = if P % c = 0 then -(P / c) else -(P / c) - 1 := by
  have e := Int.emod_add_mul_ediv P c
  have e1 := Int.emod_nonneg P (show c ≠ 0 by omega)
  have e2 := Int.emod_lt_of_pos P hc
  by_cases h : P % c = 0
  · rw [if_pos h]
    have : -P = 0 + c * (-(P / c)) := by rw [Int.mul_neg]; omega
    rw [this, Int.add_mul_ediv_left _ _ (by omega), Int.zero_ediv, Int.zero_add]
  · rw [if_neg h]
    have : -P = (c - P % c) + c * (-(P / c) - 1) := by
      have : c * (-(P / c) - 1) = -(c * (P / c)) - c := by grind
      omega
    rw [this, Int.add_mul_ediv_left _ _ (by omega), Int.ediv_eq_zero_of_lt (by omega) (by omega), Int.zero_add]
theorem ratio_up {a b c : Int} {up : Bool} (hc : 0 < c) (h1 : mag a * mag b % c ≠ 0) (h2 : (!(up == !(decide (a < 0) == decide (b < 0)))) = true) :
    (if (!(decide (a < 0) == decide (b < 0))) = true then -((mag a * mag b / c + 1 + 0) / 18446744073709551616 * 18446744073709551616 + (mag a * mag b / c + 1 + 0) % 18446744073709551616) else (mag a * mag b / c + 1 + 0) / 18446744073709551616 * 18446744073709551616 + (mag a * mag b / c + 1 + 0) % 18446744073709551616) = quot (a * b) c up := by
  rw [mag_mul a b]
  have e : (mag a * mag b / c + 1 + 0) / 18446744073709551616 * 18446744073709551616 + (mag a * mag b / c + 1 + 0) % 18446744073709551616 = mag a * mag b / c + 1 := by omega
  rw [e]
  have hn := neg_ediv (mag a * mag b) c hc
  rw [if_neg h1] at hn
  generalize mag a * mag b = P at *
  revert h2
  cases hneg : (!(decide (a < 0) == decide (b < 0))) <;> cases up <;> intro h2
  · cases h2
  · simp only [quot, Bool.false_eq_true, if_false, if_true]; omega
  · simp only [quot, Bool.false_eq_true, if_false, if_true]; omega
  · cases h2
theorem ratio_same {a b c : Int} {up : Bool} (hc : 0 < c) (h : mag a * mag b % c = 0 ∨ (!(up == !(decide (a < 0) == decide (b < 0)))) = false) :
    (if (!(decide (a < 0) == decide (b < 0))) = true then -(0 * 18446744073709551616 + mag a * mag b / c) else 0 * 18446744073709551616 + mag a * mag b / c) = quot (a * b) c up := by
  rw [mag_mul a b, Int.zero_mul, Int.zero_add]
  have hn := neg_ediv (mag a * mag b) c hc
  generalize mag a * mag b = P at *
  rcases h with h | h
  · rw [if_pos h] at hn
    cases hneg : (!(decide (a < 0) == decide (b < 0))) <;> cases up <;> simp only [quot, Bool.false_eq_true, if_false, if_true, Int.neg_neg] <;> omega
  · revert h
    cases hneg : (!(decide (a < 0) == decide (b < 0))) <;> cases up <;> intro h
    · simp only [quot, Bool.false_eq_true, if_false]
    · cases h
    · cases h
    · simp only [quot, if_true, Int.neg_neg]
theorem ratio_out {a b c : Int} {up : Bool} (hc : 0 < c) (h : mag a * mag b / 18446744073709551616 ≥ c) : ¬ fits (quot (a * b) c up) := by
  have hP : 18446744073709551616 ≤ mag a * mag b / c := by
    refine (Int.le_ediv_iff_mul_le hc).2 ?_
    have := Int.mul_ediv_self_le (x := mag a * mag b) (k := 18446744073709551616) (by omega)
    omega
  rw [mag_mul a b]
  have hn := neg_ediv (mag a * mag b) c hc
  generalize mag a * mag b = P at *
  unfold fits
  cases hneg : (!(decide (a < 0) == decide (b < 0))) <;> cases up <;> simp only [quot, Bool.false_eq_true, if_false, if_true, Int.neg_neg] <;> split at hn <;> omega
theorem div_tup {P c : Int} : Value.tuple #[.int .u64 ((P / 18446744073709551616 * 18446744073709551616 + P % 18446744073709551616) / c), .int .u64 ((P / 18446744073709551616 * 18446744073709551616 + P % 18446744073709551616) % c)] = .tuple #[.int .u64 (P / c), .int .u64 (P % c)] := by
  rw [show P / 18446744073709551616 * 18446744073709551616 + P % 18446744073709551616 = P by omega]
theorem div_lt {P c : Int} (hP : 0 ≤ P) (hc : 0 < c) (h : P / 18446744073709551616 < c) : 0 ≤ P / c ∧ P / c < 18446744073709551616 :=
  ⟨Int.ediv_nonneg hP (by omega), Int.ediv_lt_of_lt_mul hc (by omega)⟩
theorem ratio_tup {c z : Int} : (if c < 1 then Value.tuple #[.int .i64 0, .int .i64 11] else told z) = .tuple #[.int .i64 (if c < 1 then 0 else if fits z then z else 0), .int .i64 (if c < 1 then 11 else if fits z then 0 else 12)] := by
  by_cases h : c < 1
  · simp only [if_pos h]
  · simp only [if_neg h]; rfl
theorem told_ok {z : Int} (h : (if fits z then (0 : Int) else 12) = 0) : fits z := by
  by_cases hf : fits z
  · exact hf
  · rw [if_neg hf] at h; exact absurd h (by decide)
theorem back_tup {a b : Int} {up : Bool} (hb : b > 0) (ha : fits a) : (if b < 1 then Value.tuple #[.int .i64 0, .int .i64 11] else told (quot (a * b * 1) b up)) = .tuple #[.int .i64 a, .int .i64 0] := by
  rw [if_neg (by omega)]
  have : quot (a * b * 1) b up = a := by
    unfold quot
    rw [Int.mul_one, ← Int.neg_mul, Int.mul_ediv_cancel _ (by omega), Int.mul_ediv_cancel _ (by omega)]
    split <;> omega
  rw [this, told_in ha]
theorem rises {x y : Int} (h1 : (if fits x then (0 : Int) else 12) = 0) (h2 : (if fits y then (0 : Int) else 12) = 0) (h : x ≤ y) : ¬ ((if fits x then x else 0) > (if fits y then y else 0)) := by
  rw [if_pos (told_ok h1), if_pos (told_ok h2)]; omega
theorem quot_mono {x y d : Int} (hd : 0 < d) (h : x ≤ y) : quot x d true ≤ quot y d true := by
  unfold quot
  rw [if_pos rfl, if_pos rfl]
  have := Int.ediv_le_ediv hd (show -y ≤ -x by omega)
  omega
theorem rises_q {a b c d : Int} (h1 : ¬ (if d < 1 then (11 : Int) else if fits (quot (a * c) d true) then 0 else 12) ≠ 0) (h2 : ¬ (if d < 1 then (11 : Int) else if fits (quot (b * c) d true) then 0 else 12) ≠ 0) (hc : 0 ≤ c) (h : a ≤ b) :
    (if d < 1 then 0 else if fits (quot (a * c) d true) then quot (a * c) d true else 0) ≤ (if d < 1 then 0 else if fits (quot (b * c) d true) then quot (b * c) d true else 0) := by
  have hd : ¬ d < 1 := fun hd => by rw [if_pos hd] at h1; exact h1 (by decide)
  rw [if_neg hd] at h1 h2 ⊢
  rw [if_neg hd]
  rw [if_pos (told_ok (Decidable.not_not.1 h1)), if_pos (told_ok (Decidable.not_not.1 h2))]
  exact quot_mono (by omega) (Int.mul_le_mul_of_nonneg_right h hc)
theorem fits_wf {n : Int} (h : (Lit.int .i64 n).wf = true) : fits n := by
  simp [Lit.wf, IntKind.min, IntKind.max, IntKind.signed, IntKind.bits] at h
  unfold fits; omega
/-! ### Longs in limbs -/
theorem whole_lt {y : Int} {i : Nat} (h : 0 ≤ y ∧ y < pw (4 - i)) (hi : i ≤ 4) : 0 ≤ y ∧ y < 18446744073709551616 := by
  have := pw_le (show 4 - i ≤ 4 by omega)
  have e : pw 4 = 18446744073709551616 := rfl
  omega
theorem whole_step {out : List Int} {i : Nat} {x y : Int} (hl : out.length = i) (hd : dig out) (hv : val out + pw i * y = x) (hy : 0 ≤ y ∧ y < pw (4 - i)) (hi : i < 4) :
    i + 1 ≤ 4 ∧ (out ++ [y % 65536]).length = i + 1 ∧ dig (out ++ [y % 65536]) ∧ val (out ++ [y % 65536]) + pw (i + 1) * (y / 65536) = x ∧ (0 ≤ y / 65536 ∧ y / 65536 < pw (4 - (i + 1))) := by
  refine ⟨by omega, by rw [List.length_append, hl]; rfl, dig_append.2 ⟨hd, fun d h => by rw [List.mem_singleton] at h; subst h; omega⟩, ?_, by omega, ?_⟩
  · rw [val_snoc, hl, pw_succ, ← hv]
    have e : y = y % 65536 + 65536 * (y / 65536) := by omega
    have : pw i * (y % 65536 + 65536 * (y / 65536)) = pw i * (y % 65536) + 65536 * pw i * (y / 65536) := by grind
    rw [← e] at this
    omega
  · have e := pw_succ (4 - (i + 1))
    rw [show 4 - (i + 1) + 1 = 4 - i by omega] at e
    omega
theorem of_neg {ng : Bool} {ds : List Int} {x : Int} (hd : dig ds) (hz : x = (if ng = true then - val ds else val ds)) (hx : 0 < x) : val ds = x := by
  have := val_nonneg hd
  cases ng <;> simp at hz <;> omega
theorem of_len {ng : Bool} {ds : List Int} {x : Int} (hd : dig ds) (hc : canon ds) (hz : x = (if ng = true then - val ds else val ds)) (hx : 0 < x ∧ x < 18446744073709551616) : ds.length ≤ 4 := by
  have e := of_neg hd hz hx.1
  exact canon_len hd hc (by rw [e]; exact hx.2)
theorem above_ge {a b : Int} (h : (if b < a then (1 : Int) else if a < b then -1 else 0) ≥ 0) : b ≤ a := by
  split at h
  · omega
  · split at h <;> omega
theorem above_lt {a b : Int} (h : ¬ (if b < a then (1 : Int) else if a < b then -1 else 0) ≥ 0) : a ≤ b := by
  split at h
  · omega
  · split at h <;> omega
theorem if_val {n : Bool} {a b : Int} (h : a = b) : (if n = true then -a else a) = (if n = true then -b else b) := by rw [h]
theorem add_same {n m : Bool} {a b x y : Int} (hx : x = (if n = true then -a else a)) (hy : y = (if m = true then -b else b)) (h : (n == m) = true) : x + y = (if n = true then -(a + b) else a + b) := by
  cases n <;> cases m <;> simp at h hx hy ⊢ <;> omega
theorem add_diff {n m : Bool} {a b x y : Int} (hx : x = (if n = true then -a else a)) (hy : y = (if m = true then -b else b)) (h : (n == m) = false) : x + y = (if n = true then -(a - b) else a - b) := by
  cases n <;> cases m <;> simp at h hx hy ⊢ <;> omega
theorem add_diff' {n m : Bool} {a b x y : Int} (hx : x = (if n = true then -a else a)) (hy : y = (if m = true then -b else b)) (h : (n == m) = false) : x + y = (if m = true then -(b - a) else b - a) := by
  cases n <;> cases m <;> simp at h hx hy ⊢ <;> omega
theorem vd_lt {a : List Int} (h : dig a) (i : Nat) : vd a i < pw (a.length - i) := by
  have := val_lt (dig_drop h i)
  rw [List.length_drop] at this; exact this
theorem vd_bound {a : List Int} {k : Nat} (h : dig a) (hl : a.length ≤ 4) (hk : 1 ≤ k) : 0 ≤ vd a k ∧ vd a k < 281474976710656 := by
  have h1 := vd_lt h k
  have h2 := pw_le (show a.length - k ≤ 3 by omega)
  have h3 : pw 3 = 281474976710656 := rfl
  exact ⟨vd_nonneg h k, by omega⟩
theorem vd_down {a : List Int} {k : Nat} {u : Int} (hk : 1 ≤ k) (hu : a[((k : Int) - 1).toNat]? = some u) : vd a k * 65536 + u = vd a (k - 1) := by
  have := vd_step a (k - 1)
  rw [show k - 1 + 1 = k by omega, lb_some (show a[k - 1]? = some u by rw [show ((k : Int) - 1).toNat = k - 1 by omega] at hu; exact hu)] at this
  omega
theorem val_lt4 {a : List Int} (h : dig a) (hl : a.length ≤ 4) : val a < 18446744073709551616 := by
  have h1 := val_lt h
  have h2 := pw_le hl
  have h3 : pw 4 = 18446744073709551616 := rfl
  omega
theorem neg_pos {a : List Int} (h : dig a) (hc : canon a) (h0 : a ≠ []) : 1 ≤ val a := by
  have := canon_low h hc h0; have := pw_pos (a.length - 1); omega
theorem long_far {ng : Bool} {a : List Int} {x : Int} (h : dig a) (hc : canon a) (hz : x = (if ng = true then - val a else val a)) (hl : 4 < a.length) : ¬ fits x := by
  have h1 := canon_low h hc (by intro e; rw [e] at hl; simp at hl)
  have h2 := pw_le (show 4 ≤ a.length - 1 by omega)
  have h3 : pw 4 = 18446744073709551616 := rfl
  unfold fits
  cases ng <;> simp at hz <;> omega
theorem told_of {x x0 : Int} (h : fits x) (hf : fits x → x0 = x) : Value.tuple #[.int .i64 x0, .int .i64 0] = told x := by
  rw [told_in h, hf h]
theorem NumR.zero {R : Kn} : NumR R (.agg #[.bool false, .slice none 0 0]) 0 := ⟨false, _, [], rfl, Ro.nil, dig_nil, canon_nil, by simp, by simp [val]⟩
theorem sum_succ {xs : List Int} {i : Nat} {u : Int} (hu : xs[(i : Int).toNat]? = some u) : (xs.take (i + 1)).sum = (xs.take i).sum + u := by
  have hu' : xs[i]? = some u := hu
  rw [List.take_add_one, hu', List.sum_append]; simp
theorem fits_big {x : Int} (h : fits x) : (x.natAbs : Int) < big := lt_big (by unfold fits at h; omega)
theorem sum_abs {xs : List Int} (hf : ∀ x ∈ xs, fits x) : -(xs.length * 9223372036854775808 : Int) ≤ xs.sum ∧ xs.sum ≤ xs.length * 9223372036854775808 := by
  induction xs with
  | nil => simp
  | cons a l ih =>
    have h1 := hf a (by simp)
    have h2 := ih (fun x hx => hf x (by simp [hx]))
    rw [List.sum_cons, List.length_cons]
    unfold fits at h1
    omega
theorem sum_big {xs : List Int} (hf : ∀ x ∈ xs, fits x) (hm : xs.length ≤ 1000000) (i : Nat) : (((xs.take i).sum).natAbs : Int) < big := by
  have := sum_abs (xs := xs.take i) (fun x hx => hf x (List.mem_of_mem_take hx))
  have hl : (xs.take i).length ≤ 1000000 := by rw [List.length_take]; omega
  exact lt_big (by omega)
theorem take_both {α : Type} (xs ys : List α) (i : Nat) (x : α) (h : xs.take i = ys.take i) (hx : xs[i]? = some x) (hy : ys[i]? = some x) : xs.take (i + 1) = ys.take (i + 1) := by
  rw [List.take_add_one, List.take_add_one, h, hx, hy]
theorem turn_sum (xs : List Int) (k : Nat) : (xs.drop k ++ xs.take k).sum = xs.sum := by
  rw [List.sum_append, Int.add_comm, ← List.sum_append, List.take_append_drop]
theorem turn_fits {xs : List Int} (hf : ∀ x ∈ xs, fits x) (k : Nat) : ∀ x ∈ xs.drop k ++ xs.take k, fits x := by
  intro x hx
  rcases List.mem_append.1 hx with h | h
  · exact hf x (List.mem_of_mem_drop h)
  · exact hf x (List.mem_of_mem_take h)
end Go.Proofs.Ytiffedgmageiaaa.B

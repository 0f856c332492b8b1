/- The document's division bit by bit, in plain numbers; sums and differences that are told. -/
import Derived.Test.YtiffedgmageiaaaSafe
import Derived.Test.YtiffedgmageiaaaPair
namespace Go.Proofs.Ytiffedgmageiaaa.B
set_option linter.unusedVariables false
set_option linter.unusedSimpArgs false

theorem told_cases (z : Int) : ∃ p e, told z = .tuple #[.int .i64 p, .int .i64 e] ∧ (((-9223372036854775808 ≤ z ∧ z ≤ 9223372036854775807) ∧ p = z ∧ e = 0) ∨ ((z < -9223372036854775808 ∨ 9223372036854775807 < z) ∧ p = 0 ∧ e = 12)) := by
  by_cases h : fits z
  · exact ⟨z, 0, told_in h, .inl ⟨h, rfl, rfl⟩⟩
  · refine ⟨0, 12, told_out h, .inr ⟨?_, rfl, rfl⟩⟩
    unfold fits at h; omega
theorem len65 {a : List Int} (h : dig a) (hc : canon a) (hk : val a < 65536 * big) : a.length ≤ 1000 := by
  have e : pw 65 = 65536 * big := pw_succ 64
  have := canon_len h hc (k := 65) (by omega)
  omega
theorem ediv_of {X Y q r : Int} (hY : 0 < Y) (h : X = q * Y + r) (h0 : 0 ≤ r) (h1 : r < Y) : X / Y = q := by
  rw [h, Int.add_comm, Int.add_mul_ediv_right _ _ (by omega), Int.ediv_eq_zero_of_lt h0 h1]; omega
theorem bit_val {ds : List Int} (hd : dig ds) (i : Nat) : (lb ds (i / 16) / 2 ^ (i % 16)) % 2 = (val ds / 2 ^ i) % 2 := by
  have h1 := vt_vd ds (i / 16)
  have h2 := vd_step ds (i / 16)
  have h3 := vt_lt hd (i / 16)
  have h4 := vt_nonneg hd (i / 16)
  have hp := pw_pos (i / 16)
  have e1 : (2 : Int) ^ i = pw (i / 16) * 2 ^ (i % 16) := by
    have : i = 16 * (i / 16) + i % 16 := by omega
    conv => lhs; rw [this, Int.pow_add, Int.pow_mul]
    rfl
  have e2 : val ds / pw (i / 16) = vd ds (i / 16) := ediv_of hp (by rw [h1, Int.mul_comm (vd ds (i / 16))]; omega) h4 h3
  have hm : i % 16 < 16 := Nat.mod_lt _ (by decide)
  have e3 : (65536 : Int) = 2 * 2 ^ (15 - i % 16) * 2 ^ (i % 16) := by
    rw [Int.mul_assoc, ← Int.pow_add]
    rw [show 15 - i % 16 + i % 16 = 15 by omega]; rfl
  rw [e1, ← Int.ediv_ediv_of_nonneg (Int.le_of_lt hp), e2, h2]
  have h5 : lb ds (i / 16) + 65536 * vd ds (i / 16 + 1) = lb ds (i / 16) + 2 * 2 ^ (15 - i % 16) * vd ds (i / 16 + 1) * 2 ^ (i % 16) := by
    conv => lhs; rw [e3]
    rw [Int.mul_assoc, Int.mul_comm (2 ^ (i % 16)), ← Int.mul_assoc]
  rw [h5, Int.add_mul_ediv_right _ _ (Int.ne_of_gt (Int.pow_pos (by decide)))]
  rw [Int.mul_assoc]
  omega
theorem bit_shr {ds : List Int} (hd : dig ds) {k : Nat} (hk : 1 ≤ k) {u s : Int} (hu : ds[((((k : Int) - 1) / 16)).toNat]? = some u) (hs : s = ((k : Int) - 1) % 16) :
    (u.fdiv (2 ^ (min s.toNat IntKind.i64.bits))) % 2 = (val ds / 2 ^ (k - 1)) % 2 := by
  have e : (((k : Int) - 1) / 16).toNat = (k - 1) / 16 := by omega
  rw [e] at hu
  have e2 : s.toNat = (k - 1) % 16 := by omega
  have hm : (k - 1) % 16 < 16 := Nat.mod_lt _ (by decide)
  have e3 : min s.toNat IntKind.i64.bits = (k - 1) % 16 := by
    rw [e2]; have : IntKind.i64.bits = 64 := rfl
    omega
  rw [e3, Int.fdiv_eq_ediv_of_nonneg _ (Int.le_of_lt (Int.pow_pos (by decide))), ← lb_some hu]
  exact bit_val hd (k - 1)
theorem u_nonneg {ds : List Int} (hd : dig ds) {i : Nat} {u : Int} (hu : ds[i]? = some u) (n : Nat) : 0 ≤ u.fdiv (2 ^ n) := by
  have := hd u (List.mem_of_getElem? hu)
  rw [Int.fdiv_eq_ediv_of_nonneg _ (Int.le_of_lt (Int.pow_pos (by decide)))]
  exact Int.ediv_nonneg this.1 (Int.le_of_lt (Int.pow_pos (by decide)))
theorem half_pow {X : Int} {k : Nat} (hk : 1 ≤ k) : X / 2 ^ (k - 1) = 2 * (X / 2 ^ k) + (X / 2 ^ (k - 1)) % 2 := by
  have e : (2 : Int) ^ k = 2 ^ (k - 1) * 2 := by rw [← Int.pow_succ]; congr 1; omega
  rw [e, ← Int.ediv_ediv_of_nonneg (Int.le_of_lt (Int.pow_pos (by decide)))]
  omega
/-- What holds while the bits from k up are divided. -/
structure Dv (X Y : Int) (k : Nat) (q r : Int) : Prop where
  eq : X / 2 ^ k = q * Y + r
  lo : 0 ≤ r
  hi : r < Y
  q0 : 0 ≤ q
theorem Dv.start {X Y : Int} {n : Nat} (hX : 0 ≤ X) (hn : X < pw n) (hY : 0 < Y) : Dv X Y (16 * n) 0 0 := by
  refine ⟨?_, by omega, hY, by omega⟩
  have : (2 : Int) ^ (16 * n) = pw n := by rw [Int.pow_mul]; rfl
  rw [this, Int.ediv_eq_zero_of_lt hX hn]; omega
theorem Dv.q_le {X Y q r : Int} {k : Nat} (h : Dv X Y k q r) (hX : 0 ≤ X) : q ≤ X := by
  have h1 := h.eq; have h2 := h.lo; have h3 := h.hi; have h4 := h.q0
  have h5 : X / 2 ^ k ≤ X := Int.ediv_le_self _ hX
  have h6 : q * 1 ≤ q * Y := Int.mul_le_mul_of_nonneg_left (by omega) h4
  omega
theorem Dv.stepT {X Y q r r' b : Int} {k : Nat} (h : Dv X Y k q r) (hk : 1 ≤ k) (hb : (X / 2 ^ (k - 1)) % 2 = b) (hr : r' = r + r + b) (hge : Y ≤ r') : Dv X Y (k - 1) (q + q + 1) (r' - Y) := by
  have h0 := half_pow (X := X) hk
  have h1 := h.eq; have h2 := h.lo; have h3 := h.hi; have h4 := h.q0
  refine ⟨?_, by omega, by omega, by omega⟩
  rw [h0, hb, h1, Int.add_mul, Int.add_mul, Int.one_mul]
  generalize q * Y = m
  omega
theorem Dv.stepF {X Y q r r' b : Int} {k : Nat} (h : Dv X Y k q r) (hk : 1 ≤ k) (hb : (X / 2 ^ (k - 1)) % 2 = b) (hr : r' = r + r + b) (hlt : r' < Y) : Dv X Y (k - 1) (q + q) r' := by
  have h0 := half_pow (X := X) hk
  have h1 := h.eq; have h2 := h.lo; have h3 := h.hi; have h4 := h.q0
  refine ⟨?_, by omega, by omega, by omega⟩
  rw [h0, hb, h1, Int.add_mul]
  generalize q * Y = m
  omega
theorem Dv.fin {X Y q r : Int} (h : Dv X Y 0 q r) : X = q * Y + r := by
  have := h.eq
  simpa using this
theorem above_no {a b : Int} (h : ¬ (if b < a then (1 : Int) else if a < b then -1 else 0) ≥ 0) : a < b := by
  by_cases h1 : b < a
  · rw [if_pos h1] at h; omega
  · rw [if_neg h1] at h
    by_cases h2 : a < b
    · exact h2
    · rw [if_neg h2] at h; omega
theorem num_pos {ng : Bool} {a y : Int} (ha : 0 ≤ a) (hy : y = (if ng = true then -a else a)) (h0 : 0 < y) : a = y := by
  cases ng <;> simp at hy <;> omega
theorem ediv_neg_of {X Y q r : Int} (hY : 0 < Y) (h : X = q * Y + r) (h0 : 0 ≤ r) (h1 : r < Y) : -X / Y = if r = 0 then -q else -(q + 1) := by
  by_cases hr : r = 0
  · rw [if_pos hr]; exact ediv_of hY (r := 0) (by rw [h, hr, Int.neg_mul]; omega) (by omega) (by omega)
  · rw [if_neg hr]
    refine ediv_of hY (r := Y - r) ?_ (by omega) (by omega)
    rw [h, Int.neg_mul, Int.add_mul]; omega
/-- A quotient that is told by its sign and what its magnitude is. -/
theorem quot_up {ng up : Bool} {x X Y q r : Int} (hx : x = (if ng = true then -X else X)) (hY : 0 < Y) (h : X = q * Y + r) (h0 : 0 ≤ r) (h1 : r < Y) (hr : r ≠ 0) (hu : (!(up == ng)) = true) :
    quot x Y up = (if ng = true then -(q + 1) else q + 1) := by
  have e1 := ediv_of hY h h0 h1
  have e2 := ediv_neg_of hY h h0 h1
  rw [if_neg hr] at e2
  unfold quot
  cases ng <;> cases up <;> simp at hu hx ⊢ <;> subst hx
  · rw [e2]; omega
  · exact e2.trans (by omega)
theorem quot_same {ng up : Bool} {x X Y q r : Int} (hx : x = (if ng = true then -X else X)) (hY : 0 < Y) (h : X = q * Y + r) (h0 : 0 ≤ r) (h1 : r < Y) (hu : r = 0 ∨ (!(up == ng)) = false) :
    quot x Y up = (if ng = true then -q else q) := by
  have e1 := ediv_of hY h h0 h1
  have e2 := ediv_neg_of hY h h0 h1
  unfold quot
  cases ng <;> cases up <;> simp at hu hx ⊢ <;> subst hx
  · exact e1
  · rw [e2, if_pos hu]; omega
  · rw [e2, if_pos hu]
  · simp [e1]
end Go.Proofs.Ytiffedgmageiaaa.B

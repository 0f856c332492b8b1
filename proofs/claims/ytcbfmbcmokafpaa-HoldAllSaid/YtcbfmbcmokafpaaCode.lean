/- Numbers and texts as bytes: what is written, what is read, in plain lists. -/
import Derived.Test.YtcbfmbcmokafpaaSafe
import Derived.Test.YtcbfmbcmokafpaaText
namespace Go.Proofs.Ytcbfmbcmokafpaa.B
set_option linter.unusedVariables false
set_option linter.unusedSimpArgs false

/-- A number's bytes. -/
def ub (n : Nat) : List Int := if h : n < 128 then [(n : Int)] else (128 + (n : Int) % 128) :: ub (n / 128)
termination_by n
decreasing_by omega
theorem ub_lo {n : Nat} (h : n < 128) : ub n = [(n : Int)] := by rw [ub, dif_pos h]
theorem ub_hi {n : Nat} (h : ¬ n < 128) : ub n = (128 + (n : Int) % 128) :: ub (n / 128) := by rw [ub, dif_neg h]
theorem ub_pos (n : Nat) : 1 ≤ (ub n).length := by
  by_cases h : n < 128
  · rw [ub_lo h]; simp
  · rw [ub_hi h]; simp
theorem ub_len (k : Nat) : ∀ n, n < 128 ^ (k + 1) → (ub n).length ≤ k + 1 := by
  induction k with
  | zero => intro n h; rw [ub_lo (by simpa using h)]; simp
  | succ k ih =>
    intro n h
    by_cases h1 : n < 128
    · rw [ub_lo h1]; simp
    · rw [ub_hi h1, List.length_cons]
      have := ih (n / 128) (by rw [Nat.pow_succ] at h; omega)
      omega
theorem ub_len10 {n : Nat} (h : n < 18446744073709551616) : (ub n).length ≤ 10 := ub_len 9 n (by have : (128 : Nat) ^ 10 = 1180591620717411303424 := rfl; omega)
theorem ub_mono : ∀ (b a : Nat), a ≤ b → (ub a).length ≤ (ub b).length := by
  intro b
  induction b using Nat.strongRecOn with
  | _ b ih =>
    intro a h
    by_cases ha : a < 128
    · rw [ub_lo ha]; exact ub_pos b
    · have hb : ¬ b < 128 := by omega
      rw [ub_hi ha, ub_hi hb, List.length_cons, List.length_cons]
      have := ih (b / 128) (by omega) (a / 128) (by omega)
      omega
theorem ub_one {n : Nat} : (ub n).length = 1 ↔ n < 128 := by
  constructor
  · intro h
    by_cases h1 : n < 128
    · exact h1
    · rw [ub_hi h1, List.length_cons] at h
      have := ub_pos (n / 128); omega
  · intro h; rw [ub_lo h]; rfl
theorem ub_two {n : Nat} : (ub n).length ≤ 2 ↔ n < 16384 := by
  by_cases h1 : n < 128
  · rw [ub_lo h1]; simp; omega
  · rw [ub_hi h1, List.length_cons]
    have h2 := @ub_one (n / 128)
    have := ub_pos (n / 128)
    constructor
    · intro h; have := h2.1 (by omega); omega
    · intro h; have := h2.2 (by omega); omega
theorem ub_byte : ∀ n : Nat, ∀ x ∈ ub n, 0 ≤ x ∧ x < 256 := by
  intro n
  induction n using Nat.strongRecOn with
  | _ n ih =>
    intro x hx
    by_cases h : n < 128
    · rw [ub_lo h, List.mem_singleton] at hx; omega
    · rw [ub_hi h] at hx
      rcases List.mem_cons.1 hx with rfl | hx
      · omega
      · exact ih (n / 128) (by omega) x hx
/-- A long's turn, and back. -/
def turn (v : Int) : Int := if 0 ≤ v then 2 * v else -2 * v - 1
def unturn (u : Int) : Int := if u % 2 = 0 then u / 2 else -(u / 2) - 1
theorem turn_cases (v : Int) : (0 ≤ v ∧ turn v = 2 * v) ∨ (v < 0 ∧ turn v = -2 * v - 1) := by unfold turn; split <;> omega
theorem unturn_cases (u : Int) : (u % 2 = 0 ∧ unturn u = u / 2) ∨ (u % 2 = 1 ∧ unturn u = -(u / 2) - 1) := by unfold unturn; split <;> omega
theorem unturn_turn (v : Int) : unturn (turn v) = v := by
  have := turn_cases v; have := unturn_cases (turn v); omega
theorem turn_unturn {u : Int} (h : 0 ≤ u) : turn (unturn u) = u := by
  have := unturn_cases u; have := turn_cases (unturn u); omega
theorem turn_u64 {v : Int} (h : -9223372036854775808 ≤ v ∧ v ≤ 9223372036854775807) : 0 ≤ turn v ∧ turn v < 18446744073709551616 := by
  have := turn_cases v; omega

/-! ## bits -/
theorem xor_u64_0 {a : Int} (h : 0 ≤ a ∧ a < 18446744073709551616) : bits .xor .u64 a 0 = a := by
  unfold bits
  rw [wrap_u64m]
  obtain ⟨n, rfl⟩ := Int.eq_ofNat_of_zero_le h.1
  have e : ((BitVec.ofInt 64 (n : Int) ^^^ BitVec.ofInt 64 0 : BitVec 64)).toNat = n := by
    rw [BitVec.ofInt_natCast, show BitVec.ofInt 64 0 = (0 : BitVec 64) from rfl]; simp; omega
  exact (congrArg (fun z : Nat => (z : Int) % 18446744073709551616) e).trans (by omega)
theorem xor_u64_1 {a : Int} (h : 0 ≤ a ∧ a < 18446744073709551616) : bits .xor .u64 a 18446744073709551615 = 18446744073709551615 - a := by
  unfold bits
  rw [wrap_u64m]
  obtain ⟨n, rfl⟩ := Int.eq_ofNat_of_zero_le h.1
  have e : ((BitVec.ofInt 64 (n : Int) ^^^ BitVec.ofInt 64 18446744073709551615 : BitVec 64)).toNat = 18446744073709551615 - n := by
    rw [BitVec.ofInt_natCast, show BitVec.ofInt 64 18446744073709551615 = BitVec.allOnes 64 from rfl, BitVec.xor_allOnes, BitVec.toNat_not, BitVec.toNat_ofNat, Nat.mod_eq_of_lt (by omega)]
  exact (congrArg (fun z : Nat => (z : Int) % 18446744073709551616) e).trans (by omega)
theorem xor_i64_0 {a : Int} (h : 0 ≤ a ∧ a < 9223372036854775808) : bits .xor .i64 a 0 = a := by
  unfold bits
  rw [wrap_i64m]
  obtain ⟨n, rfl⟩ := Int.eq_ofNat_of_zero_le h.1
  have e : ((BitVec.ofInt 64 (n : Int) ^^^ BitVec.ofInt 64 0 : BitVec 64)).toNat = n := by
    rw [BitVec.ofInt_natCast, show BitVec.ofInt 64 0 = (0 : BitVec 64) from rfl]; simp; omega
  exact (congrArg (fun z : Nat => ((z : Int) + 9223372036854775808) % 18446744073709551616 - 9223372036854775808) e).trans (by omega)
theorem xor_i64_1 {a : Int} (h : 0 ≤ a ∧ a < 9223372036854775808) : bits .xor .i64 a (-1) = -1 - a := by
  unfold bits
  rw [wrap_i64m]
  obtain ⟨n, rfl⟩ := Int.eq_ofNat_of_zero_le h.1
  have e : ((BitVec.ofInt 64 (n : Int) ^^^ BitVec.ofInt 64 (-1) : BitVec 64)).toNat = 18446744073709551615 - n := by
    rw [BitVec.ofInt_natCast, show BitVec.ofInt 64 (-1) = BitVec.allOnes 64 from rfl, BitVec.xor_allOnes, BitVec.toNat_not, BitVec.toNat_ofNat, Nat.mod_eq_of_lt (by omega)]
  exact (congrArg (fun z : Nat => ((z : Int) + 9223372036854775808) % 18446744073709551616 - 9223372036854775808) e).trans (by omega)
theorem and_u64_1 {a : Int} (h : 0 ≤ a ∧ a < 18446744073709551616) : bits .and .u64 a 1 = a % 2 := by
  unfold bits
  rw [wrap_u64m]
  obtain ⟨n, rfl⟩ := Int.eq_ofNat_of_zero_le h.1
  have e : ((BitVec.ofInt 64 (n : Int) &&& BitVec.ofInt 64 1 : BitVec 64)).toNat = n % 2 := by
    rw [BitVec.ofInt_natCast, show BitVec.ofInt 64 1 = (1 : BitVec 64) from rfl, BitVec.toNat_and, BitVec.toNat_ofNat, show (1 : BitVec 64).toNat = 1 from rfl, Nat.and_one_is_mod]
    omega
  exact (congrArg (fun z : Nat => (z : Int) % 18446744073709551616) e).trans (by omega)
theorem byte_all (f g : Int → Int) (h : ∀ x : Fin 256, f (x.val : Int) = g (x.val : Int)) {x : Int} (hx : 0 ≤ x ∧ x < 256) : f x = g x := by
  obtain ⟨n, rfl⟩ := Int.eq_ofNat_of_zero_le hx.1
  exact h ⟨n, by omega⟩
theorem or_128 {x : Int} (hx : 0 ≤ x ∧ x < 256) : bits .or .u8 x 128 = 128 + x % 128 := byte_all (fun x => bits .or .u8 x 128) (fun x => 128 + x % 128) (by decide +kernel) hx
theorem andNot_128 {x : Int} (hx : 0 ≤ x ∧ x < 256) : bits .andNot .u8 x 128 = x % 128 := byte_all (fun x => bits .andNot .u8 x 128) (fun x => x % 128) (by decide +kernel) hx
theorem and_128 {x : Int} (hx : 0 ≤ x ∧ x < 256) : bits .and .u8 x 128 = if x < 128 then 0 else 128 := byte_all (fun x => bits .and .u8 x 128) (fun x => if x < 128 then 0 else 128) (by decide +kernel) hx
theorem wrap_u8m (n : Int) : IntKind.u8.wrap n = n % 256 := by simp [IntKind.wrap, IntKind.bits, IntKind.signed]
theorem turn_bits {v : Int} (h : -9223372036854775808 ≤ v ∧ v ≤ 9223372036854775807) : bits .xor .u64 (IntKind.u64.wrap (IntKind.i64.wrap (v * 2))) (IntKind.u64.wrap (v / 9223372036854775808)) = turn v := by
  have ht := turn_cases v
  rw [wrap_u64m, wrap_u64m, wrap_i64m]
  by_cases hv : 0 ≤ v
  · rw [show v / 9223372036854775808 % 18446744073709551616 = 0 by omega, xor_u64_0 (by omega)]; omega
  · rw [show v / 9223372036854775808 % 18446744073709551616 = 18446744073709551615 by omega, xor_u64_1 (by omega)]; omega
theorem unturn_bits {u : Int} (h : 0 ≤ u ∧ u < 18446744073709551616) : bits .xor .i64 (u / 2) (-(u % 2)) = unturn u := by
  have ht := unturn_cases u
  rcases ht with ⟨h0, h1⟩ | ⟨h0, h1⟩
  · rw [h0, show -(0 : Int) = 0 from rfl, xor_i64_0 (by omega)]; omega
  · rw [h0, xor_i64_1 (by omega)]; omega
/-- A group is put above others. -/
theorem or_put {a y : Int} {k : Nat} (hk : k ≤ 9) (h0 : 0 ≤ a) (ha : a < 2 ^ (7 * k)) (hy : 0 ≤ y) (h : a + 2 ^ (7 * k) * y < 18446744073709551616) :
    bits .or .u64 a (IntKind.u64.wrap (y * 2 ^ (min (7 * (k : Int)).toNat IntKind.u64.bits))) = a + 2 ^ (7 * k) * y := by
  have e1 : min (7 * (k : Int)).toNat IntKind.u64.bits = 7 * k := by
    have : IntKind.u64.bits = 64 := rfl
    omega
  obtain ⟨n, rfl⟩ := Int.eq_ofNat_of_zero_le h0
  obtain ⟨m, rfl⟩ := Int.eq_ofNat_of_zero_le hy
  have hp : (0 : Int) < 2 ^ (7 * k) := Int.pow_pos (by decide)
  have hm : (0 : Int) ≤ 2 ^ (7 * k) * m := Int.mul_nonneg (Int.le_of_lt hp) (by omega)
  have hn : n < 2 ^ (7 * k) := by exact_mod_cast ha
  have hlt : m * 2 ^ (7 * k) + n < 18446744073709551616 := by
    have : (n : Int) + 2 ^ (7 * k) * m < 18446744073709551616 := h
    rw [Int.mul_comm] at this
    have h2 : ((m * 2 ^ (7 * k) + n : Nat) : Int) < 18446744073709551616 := by push_cast; omega
    exact Int.ofNat_lt.1 (show ((m * 2 ^ (7 * k) + n : Nat) : Int) < ((18446744073709551616 : Nat) : Int) from h2)
  rw [e1, wrap_u64m, Int.mul_comm (m : Int), Int.emod_eq_of_lt hm (by omega)]
  have h3 := or_add m n (7 * k) hn hlt
  have h4 : bits .or .u64 (n : Int) (2 ^ (7 * k) * (m : Int)) = bits .or .u64 ((m * 2 ^ (7 * k) : Nat) : Int) (n : Int) := by
    have : ((m * 2 ^ (7 * k) : Nat) : Int) = 2 ^ (7 * k) * (m : Int) := by rw [Int.natCast_mul, Int.natCast_pow, Int.mul_comm]; rfl
    rw [this]
    unfold bits
    simp only [BitVec.or_comm]
  rw [h4, h3, Int.natCast_add, Int.natCast_mul, Int.natCast_pow, Int.mul_comm]
  show 2 ^ (7 * k) * (m : Int) + (n : Int) = _
  omega

/-! ## reading -/
/-- The number with which bytes begin: it, what is behind it, and the error; so many groups were read. -/
def pn : Nat → List Int → Int × List Int × Int
  | _, [] => (0, [], 15)
  | k, x :: xs => if (k = 9 ∧ 1 < x) ∨ (0 < k ∧ x = 0) then (0, [], 10) else if x < 128 then (x, xs, 0) else
      if (pn (k + 1) xs).2.2 = 0 then (x - 128 + 128 * (pn (k + 1) xs).1, (pn (k + 1) xs).2.1, 0) else (0, [], (pn (k + 1) xs).2.2)
/-- .. with what was read before. -/
def comb (a : Int) (k : Nat) (p : Int × List Int × Int) : Int × List Int × Int := if p.2.2 = 0 then (a + 2 ^ (7 * k) * p.1, p.2.1, 0) else (0, [], p.2.2)
theorem comb_zero (p : Int × List Int × Int) (h : p.2.2 ≠ 0 → p.1 = 0 ∧ p.2.1 = []) : comb 0 0 p = p := by
  obtain ⟨a, b, c⟩ := p
  unfold comb
  by_cases hc : c = 0
  · simp [hc]
  · obtain ⟨h1, h2⟩ := h hc
    simp at h1 h2
    simp [hc, h1, h2]
theorem pn_err : ∀ (xs : List Int) (k : Nat), (pn k xs).2.2 ≠ 0 → (pn k xs).1 = 0 ∧ (pn k xs).2.1 = []
  | [], k, _ => ⟨rfl, rfl⟩
  | x :: xs, k, h => by
    rw [pn] at h ⊢
    by_cases h1 : (k = 9 ∧ 1 < x) ∨ (0 < k ∧ x = 0)
    · rw [if_pos h1]; exact ⟨rfl, rfl⟩
    · rw [if_neg h1] at h ⊢
      by_cases h2 : x < 128
      · rw [if_pos h2] at h; exact absurd rfl h
      · rw [if_neg h2] at h ⊢
        by_cases h3 : (pn (k + 1) xs).2.2 = 0
        · rw [if_pos h3] at h; exact absurd rfl h
        · rw [if_neg h3]; exact ⟨rfl, rfl⟩
theorem pn_bad {k : Nat} {x : Int} {xs : List Int} (h : (k = 9 ∧ 1 < x) ∨ (0 < k ∧ x = 0)) : pn k (x :: xs) = (0, [], 10) := by rw [pn, if_pos h]
theorem pn_last {k : Nat} {x : Int} {xs : List Int} (h : ¬ ((k = 9 ∧ 1 < x) ∨ (0 < k ∧ x = 0))) (hx : x < 128) : pn k (x :: xs) = (x, xs, 0) := by rw [pn, if_neg h, if_pos hx]
theorem pn_more {k : Nat} {x : Int} {xs : List Int} (h : ¬ ((k = 9 ∧ 1 < x) ∨ (0 < k ∧ x = 0))) (hx : ¬ x < 128) (a : Int) : comb a k (pn k (x :: xs)) = comb (a + 2 ^ (7 * k) * (x - 128)) (k + 1) (pn (k + 1) xs) := by
  rw [pn, if_neg h, if_neg hx]
  have e : (2 : Int) ^ (7 * (k + 1)) = 2 ^ (7 * k) * 128 := by
    rw [show 7 * (k + 1) = 7 * k + 7 by omega, Int.pow_add]; rfl
  unfold comb
  by_cases h3 : (pn (k + 1) xs).2.2 = 0
  · simp only [h3, if_true]
    rw [e, Int.mul_add, Int.mul_assoc, Int.add_assoc]
  · simp only [h3, if_false]
theorem pow_le9 {k : Nat} (hk : k ≤ 9) : (2 : Int) ^ (7 * k) ≤ 9223372036854775808 := by
  have : (2 : Int) ^ (7 * 9) = 9223372036854775808 := rfl
  rw [← this]
  exact_mod_cast Nat.pow_le_pow_right (by decide) (by omega)
theorem pow_le8 {k : Nat} (hk : k ≤ 8) : (2 : Int) ^ (7 * k) ≤ 72057594037927936 := by
  have : (2 : Int) ^ (7 * 8) = 72057594037927936 := rfl
  rw [← this]
  exact_mod_cast Nat.pow_le_pow_right (by decide) (by omega)
theorem put_lt {a y : Int} {k : Nat} (hk : k ≤ 9) (ha : a < 2 ^ (7 * k)) (h0 : 0 ≤ y) (h1 : y < 128) (h9 : k = 9 → y ≤ 1) : a + 2 ^ (7 * k) * y < 18446744073709551616 := by
  by_cases h : k = 9
  · subst h
    have : (2 : Int) ^ (7 * 9) = 9223372036854775808 := rfl
    rw [this] at ha ⊢
    have := h9 rfl; omega
  · have h8 := pow_le8 (k := k) (by omega)
    have := Int.mul_le_mul h8 (show y ≤ 127 by omega) h0 (by decide)
    omega
theorem put_next {a y : Int} {k : Nat} (ha : a < 2 ^ (7 * k)) (h0 : 0 ≤ y) (h1 : y < 128) : a + 2 ^ (7 * k) * y < 2 ^ (7 * (k + 1)) := by
  have e : (2 : Int) ^ (7 * (k + 1)) = 2 ^ (7 * k) * 128 := by
    rw [show 7 * (k + 1) = 7 * k + 7 by omega, Int.pow_add]; rfl
  have h2 : (2 : Int) ^ (7 * k) * y ≤ 2 ^ (7 * k) * 127 := Int.mul_le_mul_of_nonneg_left (by omega) (Int.le_of_lt (Int.pow_pos (by decide)))
  omega
/-- What is read is in range. -/
theorem pn_range : ∀ (xs : List Int) (k : Nat), k ≤ 9 → (∀ x ∈ xs, 0 ≤ x ∧ x < 256) → 0 ≤ (pn k xs).1 ∧ 2 ^ (7 * k) * (pn k xs).1 + 2 ^ (7 * k) ≤ 18446744073709551616
  | [], k, hk, _ => ⟨by simp [pn], by have := pow_le9 hk; simp [pn]; omega⟩
  | x :: xs, k, hk, hb => by
    have hx := hb x (List.mem_cons_self ..)
    have hp : (0 : Int) < 2 ^ (7 * k) := Int.pow_pos (by decide)
    have hp9 := pow_le9 hk
    by_cases h1 : (k = 9 ∧ 1 < x) ∨ (0 < k ∧ x = 0)
    · rw [pn_bad h1]; simp; omega
    · by_cases h2 : x < 128
      · rw [pn_last h1 h2]
        refine ⟨hx.1, ?_⟩
        have := put_lt (a := 2 ^ (7 * k) - 1) hk (by omega) hx.1 h2 (fun h => by omega)
        show 2 ^ (7 * k) * x + _ ≤ _
        omega
      · have hk9 : k + 1 ≤ 9 := by omega
        obtain ⟨h3, h4⟩ := pn_range xs (k + 1) hk9 (fun y hy => hb y (List.mem_cons_of_mem _ hy))
        have e : (2 : Int) ^ (7 * (k + 1)) = 2 ^ (7 * k) * 128 := by
          rw [show 7 * (k + 1) = 7 * k + 7 by omega, Int.pow_add]; rfl
        rw [pn, if_neg h1, if_neg h2]
        by_cases h5 : (pn (k + 1) xs).2.2 = 0
        · rw [if_pos h5]
          refine ⟨by show 0 ≤ x - 128 + 128 * _; omega, ?_⟩
          show 2 ^ (7 * k) * (x - 128 + 128 * _) + _ ≤ _
          rw [e] at h4
          rw [Int.mul_add]
          have h6 : (2 : Int) ^ (7 * k) * (x - 128) ≤ 2 ^ (7 * k) * 127 := Int.mul_le_mul_of_nonneg_left (by omega) (Int.le_of_lt hp)
          rw [Int.mul_assoc] at h4
          omega
        · rw [if_neg h5]; simp; omega
theorem pn_u64 {xs : List Int} (hb : ∀ x ∈ xs, 0 ≤ x ∧ x < 256) : 0 ≤ (pn 0 xs).1 ∧ (pn 0 xs).1 < 18446744073709551616 := by
  obtain ⟨h1, h2⟩ := pn_range xs 0 (by decide) hb
  have : (2 : Int) ^ (7 * 0) = 1 := rfl
  rw [this] at h2; omega
theorem pn_rest : ∀ (xs : List Int) (k : Nat), ∃ m, (pn k xs).2.1 = [] ∨ (pn k xs).2.1 = xs.drop m
  | [], k => ⟨0, .inl rfl⟩
  | x :: xs, k => by
    obtain ⟨m, hm⟩ := pn_rest xs (k + 1)
    rw [pn]
    by_cases h1 : (k = 9 ∧ 1 < x) ∨ (0 < k ∧ x = 0)
    · rw [if_pos h1]; exact ⟨0, .inl rfl⟩
    · rw [if_neg h1]
      by_cases h2 : x < 128
      · rw [if_pos h2]; exact ⟨1, .inr rfl⟩
      · rw [if_neg h2]
        by_cases h3 : (pn (k + 1) xs).2.2 = 0
        · rw [if_pos h3]; exact ⟨m + 1, hm⟩
        · rw [if_neg h3]; exact ⟨0, .inl rfl⟩
theorem pn_sub {xs : List Int} {k : Nat} {y : Int} (h : y ∈ (pn k xs).2.1) : y ∈ xs := by
  obtain ⟨m, hm | hm⟩ := pn_rest xs k
  · rw [hm] at h; cases h
  · rw [hm] at h; exact List.mem_of_mem_drop h
theorem pn_len (xs : List Int) (k : Nat) : (pn k xs).2.1.length ≤ xs.length := by
  obtain ⟨m, hm | hm⟩ := pn_rest xs k
  · rw [hm]; simp
  · rw [hm, List.length_drop]; omega
/-- What was written is read. -/
theorem pn_ub : ∀ (n k : Nat) (rest : List Int), (n : Int) * 2 ^ (7 * k) < 18446744073709551616 → k ≤ 9 → (0 < k → n ≠ 0) → pn k (ub n ++ rest) = ((n : Int), rest, 0) := by
  intro n
  induction n using Nat.strongRecOn with
  | _ n ih =>
    intro k rest hn hk h0
    by_cases h : n < 128
    · rw [ub_lo h, List.singleton_append]
      refine pn_last ?_ (by omega)
      rintro (⟨rfl, h1⟩ | ⟨h1, h2⟩)
      · have : (2 : Int) ^ (7 * 9) = 9223372036854775808 := rfl
        rw [this] at hn; omega
      · exact h0 h1 (by omega)
    · have hk8 : k ≤ 8 := by
        rcases Nat.lt_or_ge k 9 with h' | h'
        · omega
        · obtain rfl : k = 9 := by omega
          have : (2 : Int) ^ (7 * 9) = 9223372036854775808 := rfl
          rw [this] at hn; omega
      have e : (2 : Int) ^ (7 * (k + 1)) = 128 * 2 ^ (7 * k) := by
        rw [show 7 * (k + 1) = 7 + 7 * k by omega, Int.pow_add]; rfl
      have hp : (0 : Int) < 2 ^ (7 * k) := Int.pow_pos (by decide)
      have hd : ((n / 128 : Nat) : Int) * 2 ^ (7 * (k + 1)) < 18446744073709551616 := by
        rw [e, ← Int.mul_assoc]
        have : ((n / 128 : Nat) : Int) * 128 * 2 ^ (7 * k) ≤ (n : Int) * 2 ^ (7 * k) := Int.mul_le_mul_of_nonneg_right (by omega) (Int.le_of_lt hp)
        omega
      have := ih (n / 128) (by omega) (k + 1) rest hd (by omega) (fun _ => by omega)
      rw [ub_hi h, List.cons_append, pn, if_neg (by omega), if_neg (by omega), this]
      simp only [if_true]
      rw [show (128 + (n : Int) % 128 - 128 + 128 * ((n / 128 : Nat) : Int)) = n by omega]
/-- Of fewer bytes it is told that they end. -/
theorem pn_cut : ∀ (n k m : Nat) , (n : Int) * 2 ^ (7 * k) < 18446744073709551616 → k ≤ 9 → (0 < k → n ≠ 0) → m < (ub n).length → pn k ((ub n).take m) = (0, [], 15) := by
  intro n
  induction n using Nat.strongRecOn with
  | _ n ih =>
    intro k m hn hk h0 hm
    by_cases h : n < 128
    · rw [ub_lo h] at hm ⊢
      obtain rfl : m = 0 := by simp at hm; exact hm
      rfl
    · have hk8 : k ≤ 8 := by
        rcases Nat.lt_or_ge k 9 with h' | h'
        · omega
        · obtain rfl : k = 9 := by omega
          have : (2 : Int) ^ (7 * 9) = 9223372036854775808 := rfl
          rw [this] at hn; omega
      have e : (2 : Int) ^ (7 * (k + 1)) = 128 * 2 ^ (7 * k) := by
        rw [show 7 * (k + 1) = 7 + 7 * k by omega, Int.pow_add]; rfl
      have hp : (0 : Int) < 2 ^ (7 * k) := Int.pow_pos (by decide)
      have hd : ((n / 128 : Nat) : Int) * 2 ^ (7 * (k + 1)) < 18446744073709551616 := by
        rw [e, ← Int.mul_assoc]
        have : ((n / 128 : Nat) : Int) * 128 * 2 ^ (7 * k) ≤ (n : Int) * 2 ^ (7 * k) := Int.mul_le_mul_of_nonneg_right (by omega) (Int.le_of_lt hp)
        omega
      rw [ub_hi h] at hm ⊢
      cases m with
      | zero => rfl
      | succ m =>
        have := ih (n / 128) (by omega) (k + 1) m hd (by omega) (fun _ => by omega) (by simpa using hm)
        rw [List.take_succ_cons, pn, if_neg (by omega), if_neg (by omega), this]
        simp
/-- Bytes that are read as a number are those that are written of it. -/
theorem pn_one : ∀ (xs : List Int) (k : Nat) (r : List Int) (v : Int), (∀ x ∈ xs, 0 ≤ x ∧ x < 256) → pn k xs = (v, r, 0) → 0 ≤ v ∧ xs = ub v.toNat ++ r ∧ (0 < k → v ≠ 0)
  | [], k, r, v, _, h => by simp [pn] at h
  | x :: xs, k, r, v, hb, h => by
    have hx := hb x (List.mem_cons_self ..)
    by_cases h1 : (k = 9 ∧ 1 < x) ∨ (0 < k ∧ x = 0)
    · rw [pn_bad h1] at h; simp at h
    · by_cases h2 : x < 128
      · rw [pn_last h1 h2] at h
        simp only [Prod.mk.injEq] at h
        obtain ⟨rfl, rfl, _⟩ := h
        refine ⟨hx.1, ?_, fun hk hv => h1 (.inr ⟨hk, hv⟩)⟩
        rw [ub_lo (by omega), List.singleton_append, Int.toNat_of_nonneg hx.1]
      · rw [pn, if_neg h1, if_neg h2] at h
        by_cases h3 : (pn (k + 1) xs).2.2 = 0
        · rw [if_pos h3] at h
          simp only [Prod.mk.injEq] at h
          obtain ⟨rfl, rfl, _⟩ := h
          obtain ⟨h4, h5, h6⟩ := pn_one xs (k + 1) (pn (k + 1) xs).2.1 (pn (k + 1) xs).1 (fun y hy => hb y (List.mem_cons_of_mem _ hy)) (by rw [← h3])
          have h7 := h6 (by omega)
          refine ⟨by omega, ?_, fun _ => by omega⟩
          have e1 : (x - 128 + 128 * (pn (k + 1) xs).1).toNat / 128 = (pn (k + 1) xs).1.toNat := by omega
          have e2 : (128 : Int) + ((x - 128 + 128 * (pn (k + 1) xs).1).toNat : Int) % 128 = x := by omega
          rw [ub_hi (by omega), List.cons_append, e1, e2, ← h5]
        · rw [if_neg h3] at h; simp at h; exact absurd h.2.2 h3
theorem pn_codes : ∀ (xs : List Int) (k : Nat), (pn k xs).2.2 = 0 ∨ (pn k xs).2.2 = 10 ∨ (pn k xs).2.2 = 15
  | [], k => .inr (.inr rfl)
  | x :: xs, k => by
    rw [pn]
    by_cases h1 : (k = 9 ∧ 1 < x) ∨ (0 < k ∧ x = 0)
    · rw [if_pos h1]; exact .inr (.inl rfl)
    · rw [if_neg h1]
      by_cases h2 : x < 128
      · rw [if_pos h2]; exact .inl rfl
      · rw [if_neg h2]
        by_cases h3 : (pn (k + 1) xs).2.2 = 0
        · rw [if_pos h3]; exact .inl rfl
        · rw [if_neg h3]; exact pn_codes xs (k + 1)
end Go.Proofs.Ytcbfmbcmokafpaa.B

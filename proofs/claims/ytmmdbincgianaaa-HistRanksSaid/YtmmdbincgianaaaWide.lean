/- Numbers of two words, in plain numbers. -/
import Derived.Test.YtmmdbincgianaaaMul
import Derived.Test.YtmmdbincgianaaaCode2
namespace Go.Proofs.Ytmmdbincgianaaa.B
set_option linter.unusedVariables false
set_option linter.unusedSimpArgs false

/-- The two words of a number, round and round. -/
def wh (s : Int) : Int := (s / 18446744073709551616 + 9223372036854775808) % 18446744073709551616 - 9223372036854775808
def wl (s : Int) : Int := s % 18446744073709551616
theorem w_def (s : Int) : wh s = (s / 18446744073709551616 + 9223372036854775808) % 18446744073709551616 - 9223372036854775808 ∧ wl s = s % 18446744073709551616 := ⟨rfl, rfl⟩
theorem w_range (s : Int) : (-9223372036854775808 ≤ wh s ∧ wh s ≤ 9223372036854775807) ∧ 0 ≤ wl s ∧ wl s < 18446744073709551616 := by have := w_def s; omega
theorem w_fits (s : Int) : fits (wh s) := (w_range s).1
/-- It fits two words. -/
def wfit (s : Int) : Prop := -170141183460469231731687303715884105728 ≤ s ∧ s < 170141183460469231731687303715884105728
instance (s : Int) : Decidable (wfit s) := inferInstanceAs (Decidable (_ ∧ _))
theorem w_back {s : Int} (h : -170141183460469231731687303715884105728 ≤ s ∧ s < 170141183460469231731687303715884105728) : wh s * 18446744073709551616 + wl s = s := by have := w_def s; omega
theorem w_same {h l : Int} (hh : -9223372036854775808 ≤ h ∧ h ≤ 9223372036854775807) (hl : 0 ≤ l ∧ l < 18446744073709551616) : wh (h * 18446744073709551616 + l) = h ∧ wl (h * 18446744073709551616 + l) = l := by
  have := w_def (h * 18446744073709551616 + l); omega
theorem w_congr {s t : Int} (k : Int) (h : s = t + k * 340282366920938463463374607431768211456) : wh s = wh t ∧ wl s = wl t := by
  have h1 := w_def s; have h2 := w_def t; omega
/-- What goes round, once more. -/
theorem w_again (s : Int) : ∃ k, wh s * 18446744073709551616 + wl s = s + k * 340282366920938463463374607431768211456 := by
  have h := w_def s
  exact ⟨-((s / 18446744073709551616 + 9223372036854775808) / 18446744073709551616), by omega⟩
theorem w_in {h l : Int} (hh : fits h) (hl : 0 ≤ l ∧ l < 18446744073709551616) : wfit (h * 18446744073709551616 + l) := by unfold fits wfit at *; omega
theorem around_hi {ah al bh bl c : Int} (ha : 0 ≤ al ∧ al < 18446744073709551616) (hb : 0 ≤ bl ∧ bl < 18446744073709551616) (hc : 0 ≤ c ∧ c ≤ 1) (x y : Int) (hx : x = IntKind.i64.wrap (ah + bh)) (hy : y = (al + bl + c) / 18446744073709551616) :
    IntKind.i64.wrap (x + y) = wh (ah * 18446744073709551616 + al + (bh * 18446744073709551616 + bl) + c) := by
  have h := w_def (ah * 18446744073709551616 + al + (bh * 18446744073709551616 + bl) + c)
  rw [wrap_i64m] at hx ⊢
  omega
theorem around_lo {ah al bh bl c : Int} : (al + bl + c) % 18446744073709551616 = wl (ah * 18446744073709551616 + al + (bh * 18446744073709551616 + bl) + c) := by
  have h := w_def (ah * 18446744073709551616 + al + (bh * 18446744073709551616 + bl) + c)
  omega
theorem times_u {a b : Int} (ha : fits a) (hb : fits b) : ∃ P : Int, P = (a % 18446744073709551616) * (b % 18446744073709551616) ∧
    wl (a * b) = P % 18446744073709551616 ∧ wh (a * b) = IntKind.i64.wrap (P / 18446744073709551616 - (if a < 0 then b % 18446744073709551616 else 0) - (if b < 0 then a % 18446744073709551616 else 0)) := by
  refine ⟨_, rfl, ?_⟩
  unfold fits at ha hb
  obtain ⟨p, hp⟩ : ∃ p, a * b = p := ⟨_, rfl⟩
  have e : ∃ i j : Int, (i = if a < 0 then 1 else 0) ∧ (j = if b < 0 then 1 else 0) ∧ a % 18446744073709551616 = a + i * 18446744073709551616 ∧ b % 18446744073709551616 = b + j * 18446744073709551616 := by
    refine ⟨_, _, rfl, rfl, ?_, ?_⟩ <;> split <;> omega
  obtain ⟨i, j, hi, hj, h1, h2⟩ := e
  have hw := w_def (a * b)
  rw [wrap_i64m]
  have e2 : (a % 18446744073709551616) * (b % 18446744073709551616) = p + (a * j + b * i) * 18446744073709551616 + i * j * 340282366920938463463374607431768211456 := by
    rw [h1, h2, ← hp]; grind
  rw [e2]
  have e3 : a * j = if b < 0 then a else 0 := by rw [hj]; split <;> simp
  have e4 : b * i = if a < 0 then b else 0 := by rw [hi]; split <;> simp
  have e5 : (i * j = 0 ∨ i * j = 1) := by rw [hi, hj]; split <;> split <;> simp
  rw [hp] at hw ⊢
  rw [e3, e4]
  generalize i * j = q at *
  by_cases c1 : a < 0 <;> by_cases c2 : b < 0 <;> simp only [c1, c2, if_true, if_false] at * <;> omega
theorem compl_u64 {a : Int} (h : 0 ≤ a ∧ a < 18446744073709551616) : bits .xor .u64 (if IntKind.u64.signed then -1 else IntKind.u64.max) a = 18446744073709551615 - a := by
  have e : bits .xor .u64 (if IntKind.u64.signed then -1 else IntKind.u64.max) a = bits .xor .u64 a 18446744073709551615 := by
    show bits .xor .u64 18446744073709551615 a = _
    unfold bits; simp only [BitVec.xor_comm]
  rw [e, xor_u64_1 h]
theorem compl_i64 {a : Int} (h : fits a) : bits .xor .i64 (if IntKind.i64.signed then -1 else IntKind.i64.max) a = -1 - a := by
  show bits .xor .i64 (-1) a = _
  unfold fits at h
  unfold bits
  rw [wrap_i64m]
  have e : ((BitVec.ofInt 64 (-1) ^^^ BitVec.ofInt 64 a : BitVec 64)).toNat = 18446744073709551615 - (a % 18446744073709551616).toNat := by
    rw [show BitVec.ofInt 64 (-1) = BitVec.allOnes 64 from rfl, BitVec.xor_comm, BitVec.xor_allOnes, BitVec.toNat_not, BitVec.toNat_ofInt]
    rfl
  exact (congrArg (fun z : Nat => ((z : Int) + 9223372036854775808) % 18446744073709551616 - 9223372036854775808) e).trans (by omega)
def cmpI (a b : Int) : Int := if a < b then -1 else if a = b then 0 else 1
theorem cmpI_cases (a b : Int) : (a < b ∧ cmpI a b = -1) ∨ (a = b ∧ cmpI a b = 0) ∨ (b < a ∧ cmpI a b = 1) := by
  unfold cmpI
  by_cases h : a < b
  · rw [if_pos h]; omega
  · rw [if_neg h]
    by_cases h2 : a = b
    · rw [if_pos h2]; omega
    · rw [if_neg h2]; omega
def orI : List Int → Int | [] => 0 | x :: xs => if x ≠ 0 then x else orI xs
theorem or_two (a b : Int) : (a ≠ 0 ∧ orI [a, b] = a) ∨ (a = 0 ∧ orI [a, b] = b) := by
  by_cases h : a = 0
  · refine .inr ⟨h, ?_⟩
    simp only [orI, h]; by_cases h2 : b = 0 <;> simp [h2]
  · exact .inl ⟨h, by simp [orI, h]⟩
theorem or_drop {xs : List Int} {i : Nat} {u : Int} (hu : xs[i]? = some u) : orI (xs.drop i) = if u ≠ 0 then u else orI (xs.drop (i + 1)) := by
  have hi := (List.getElem?_eq_some_iff.1 hu).1
  rw [List.drop_eq_getElem_cons hi, orI, (List.getElem?_eq_some_iff.1 hu).2]
/-- A word's bytes, the highest first. -/
def bw (w : Int) : Nat → List Int | 0 => [] | k + 1 => bw w k ++ [w / 2 ^ (56 - 8 * k) % 256]
theorem bw_len (w : Int) : ∀ k, (bw w k).length = k | 0 => rfl | k + 1 => by rw [bw, List.length_append, bw_len w k]; rfl
theorem bw_byte (w : Int) : ∀ k, ∀ x ∈ bw w k, 0 ≤ x ∧ x < 256
  | 0, x, h => by cases h
  | k + 1, x, h => by
    rw [bw] at h
    rcases List.mem_append.1 h with h | h
    · exact bw_byte w k x h
    · rw [List.mem_singleton] at h; omega
/-- The number of bytes, the highest first. -/
def bk (xs : List Int) : Int := xs.foldl (fun a x => a * 256 + x) 0
theorem bk_snoc (xs : List Int) (x : Int) : bk (xs ++ [x]) = bk xs * 256 + x := by unfold bk; rw [List.foldl_append]; rfl
theorem bk_range : ∀ (n : Nat) (xs : List Int), xs.length = n → (∀ x ∈ xs, 0 ≤ x ∧ x < 256) → 0 ≤ bk xs ∧ bk xs < 256 ^ n
  | 0, xs, h, _ => by
    obtain rfl : xs = [] := List.eq_nil_of_length_eq_zero h
    simp [bk]
  | n + 1, xs, h, hb => by
    obtain ⟨ys, y, rfl⟩ : ∃ ys y, xs = ys ++ [y] := ⟨xs.dropLast, xs.getLast (by intro e; subst e; simp at h), (List.dropLast_concat_getLast _).symm⟩
    rw [List.length_append] at h
    obtain ⟨h1, h2⟩ := bk_range n ys (by simp at h; exact h) (fun x hx => hb x (List.mem_append_left _ hx))
    have h3 := hb y (List.mem_append_right _ (by simp))
    rw [bk_snoc, Int.pow_succ]; omega
theorem bk_bw {w : Int} (h : 0 ≤ w ∧ w < 18446744073709551616) : ∀ k, k ≤ 8 → bk (bw w k) = w / 2 ^ (64 - 8 * k)
  | 0, _ => by
    show (0 : Int) = w / 2 ^ 64
    have : (2 : Int) ^ 64 = 18446744073709551616 := rfl
    rw [this]; omega
  | k + 1, hk => by
    rw [bw, bk_snoc, bk_bw h k (by omega)]
    have e : (2 : Int) ^ (64 - 8 * k) = 2 ^ (56 - 8 * k) * 256 := by
      rw [show 64 - 8 * k = (56 - 8 * k) + 8 by omega, Int.pow_add]; rfl
    rw [e, ← Int.ediv_ediv_of_nonneg (Int.le_of_lt (Int.pow_pos (by decide))), show 64 - 8 * (k + 1) = 56 - 8 * k by omega]
    omega
theorem bk_bw8 {w : Int} (h : 0 ≤ w ∧ w < 18446744073709551616) : bk (bw w 8) = w := by
  rw [bk_bw h 8 (by decide)]; simp
/-- Eight bytes come back. -/
theorem bk_inj : ∀ (n : Nat) (xs ys : List Int), xs.length = n → ys.length = n → (∀ x ∈ xs, 0 ≤ x ∧ x < 256) → (∀ x ∈ ys, 0 ≤ x ∧ x < 256) → bk xs = bk ys → xs = ys
  | 0, xs, ys, h, h', _, _, _ => by rw [List.eq_nil_of_length_eq_zero h, List.eq_nil_of_length_eq_zero h']
  | n + 1, xs, ys, h, h', hb, hb', he => by
    obtain ⟨as, a, rfl⟩ : ∃ ys y, xs = ys ++ [y] := ⟨xs.dropLast, xs.getLast (by intro e; subst e; simp at h), (List.dropLast_concat_getLast _).symm⟩
    obtain ⟨bs, b, rfl⟩ : ∃ zs y, ys = zs ++ [y] := ⟨ys.dropLast, ys.getLast (by intro e; subst e; simp at h'), (List.dropLast_concat_getLast _).symm⟩
    rw [List.length_append] at h h'
    have h3 := hb a (List.mem_append_right _ (by simp))
    have h4 := hb' b (List.mem_append_right _ (by simp))
    rw [bk_snoc, bk_snoc] at he
    have h5 := bk_inj n as bs (by simp at h; exact h) (by simp at h'; exact h') (fun x hx => hb x (List.mem_append_left _ hx)) (fun x hx => hb' x (List.mem_append_left _ hx)) (by omega)
    subst h5
    rw [show a = b by omega]
theorem shl8_or {a x : Int} (ha : 0 ≤ a ∧ a < 72057594037927936) (hx : 0 ≤ x ∧ x < 256) : bits .or .u64 (IntKind.u64.wrap (a * 256)) x = a * 256 + x := by
  obtain ⟨n, rfl⟩ := Int.eq_ofNat_of_zero_le ha.1
  obtain ⟨m, rfl⟩ := Int.eq_ofNat_of_zero_le hx.1
  have := or_add n m 8 (by omega) (by have : (2:Nat)^8 = 256 := rfl; omega)
  have e2 : (2 : Nat) ^ 8 = 256 := rfl
  rw [e2] at this
  rw [wrap_u64m, Int.emod_eq_of_lt (by omega) (by omega)]
  have e3 : ((n * 256 : Nat) : Int) = (n : Int) * 256 := by rw [Int.natCast_mul]; rfl
  rw [e3] at this
  rw [this, Int.natCast_add, e3]
theorem tupw {h l h' l' : Int} (a : h = h') (b : l = l') : Value.agg #[.int .i64 h, .int .u64 l] = .agg #[.int .i64 h', .int .u64 l'] := by rw [a, b]
theorem plus_in {s ah al bh bl c h : Int} (ha : -9223372036854775808 ≤ ah ∧ ah ≤ 9223372036854775807) (hb : -9223372036854775808 ≤ bh ∧ bh ≤ 9223372036854775807) (hal : 0 ≤ al ∧ al < 18446744073709551616) (hbl : 0 ≤ bl ∧ bl < 18446744073709551616) (hc : 0 ≤ c ∧ c ≤ 1)
    (hs : s = ah * 18446744073709551616 + al + (bh * 18446744073709551616 + bl) + c) (hd : h = (s / 18446744073709551616 + 9223372036854775808) % 18446744073709551616 - 9223372036854775808) (h1 : ¬ (ah < 0 ↔ bh < 0) ∨ (h < 0 ↔ ah < 0)) : wfit s := by
  unfold wfit; omega
theorem plus_out {s ah al bh bl c h : Int} (ha : -9223372036854775808 ≤ ah ∧ ah ≤ 9223372036854775807) (hb : -9223372036854775808 ≤ bh ∧ bh ≤ 9223372036854775807) (hal : 0 ≤ al ∧ al < 18446744073709551616) (hbl : 0 ≤ bl ∧ bl < 18446744073709551616) (hc : 0 ≤ c ∧ c ≤ 1)
    (hs : s = ah * 18446744073709551616 + al + (bh * 18446744073709551616 + bl) + c) (hd : h = (s / 18446744073709551616 + 9223372036854775808) % 18446744073709551616 - 9223372036854775808) (h1 : ah < 0 ↔ bh < 0) (h2 : ¬ (h < 0 ↔ ah < 0)) : ¬ wfit s := by
  unfold wfit; omega
theorem w_two (s u : Int) : wh (wh s * 18446744073709551616 + wl s + (wh u * 18446744073709551616 + wl u) + 0) = wh (s + u) ∧ wl (wh s * 18446744073709551616 + wl s + (wh u * 18446744073709551616 + wl u) + 0) = wl (s + u) := by
  obtain ⟨k, hk⟩ := w_again s
  obtain ⟨j, hj⟩ := w_again u
  exact w_congr (k + j) (by rw [hk, hj]; omega)
theorem shr_at {x : Int} {k : Nat} (hx : 0 ≤ x ∧ x < 18446744073709551616) (hk : k < 8) : x.fdiv (2 ^ (min (56 - 8 * (k : Int)).toNat IntKind.u64.bits)) = x / 2 ^ (56 - 8 * k) := by
  have e : min (56 - 8 * (k : Int)).toNat IntKind.u64.bits = 56 - 8 * k := by
    have : IntKind.u64.bits = 64 := rfl
    omega
  rw [e, Int.fdiv_eq_ediv_of_nonneg _ (Int.le_of_lt (Int.pow_pos (by decide)))]
theorem pow256 {m n : Nat} (h : m ≤ n) : (256 : Int) ^ m ≤ 256 ^ n := by
  obtain ⟨k, rfl⟩ := Nat.exists_eq_add_of_le h
  rw [Int.pow_add]
  have h1 : (0 : Int) < 256 ^ m := Int.pow_pos (by decide)
  have h2 : (0 : Int) < 256 ^ k := Int.pow_pos (by decide)
  have : (256 : Int) ^ m * 1 ≤ 256 ^ m * 256 ^ k := Int.mul_le_mul_of_nonneg_left (by omega) (by omega)
  omega
theorem bk_lt8 {xs : List Int} (h : xs.length ≤ 7) (hb : ∀ x ∈ xs, 0 ≤ x ∧ x < 256) : 0 ≤ bk xs ∧ bk xs < 72057594037927936 := by
  obtain ⟨h1, h2⟩ := bk_range _ xs rfl hb
  have : (256 : Int) ^ xs.length ≤ 256 ^ 7 := pow256 h
  have e : (256 : Int) ^ 7 = 72057594037927936 := rfl
  omega
theorem bk_lt9 {xs : List Int} (h : xs.length ≤ 8) (hb : ∀ x ∈ xs, 0 ≤ x ∧ x < 256) : 0 ≤ bk xs ∧ bk xs < 18446744073709551616 := by
  obtain ⟨h1, h2⟩ := bk_range _ xs rfl hb
  have : (256 : Int) ^ xs.length ≤ 256 ^ 8 := pow256 h
  have e : (256 : Int) ^ 8 = 18446744073709551616 := rfl
  omega
end Go.Proofs.Ytmmdbincgianaaa.B

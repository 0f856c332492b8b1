/- Sums that tell spoilt bytes, over words of 32 bits: what the code and the document reckon is one. -/
import Derived.Laws.Entries
import Derived.IntWalk
namespace Go.Proofs.Ytccehcbjihelhaa.Crc
set_option linter.unusedVariables false
abbrev W := BitVec 32
def poly : W := 0xEDB88320
def bitS (x : W) : W := (x >>> (1 : Nat)) ^^^ (bif x.getLsbD 0 then poly else 0#32)
def iter : Nat → W → W | 0, x => x | n + 1, x => bitS (iter n x)
def byteS (x : W) (b : Int) : W := iter 8 (x ^^^ BitVec.ofInt 32 b)
def sumS (s : W) (l : List Int) : W := l.foldl byteS s
def crc (l : List Int) : W := ~~~ (sumS (~~~ 0) l)
def le4 (x : W) : List Int := [x.toNat % 256, x.toNat / 256 % 256, x.toNat / 65536 % 256, x.toNat / 16777216 % 256]
def seal_ (l : List Int) : List Int := l ++ le4 (crc l)
/-- A word as a number. -/
def wi (x : W) : Int := (x.toNat : Int)
theorem wi_lt (x : W) : wi x < 4294967296 := by unfold wi; have := x.isLt; omega
theorem wi_nn (x : W) : 0 ≤ wi x := by unfold wi; omega
theorem ofInt_wi (x : W) : BitVec.ofInt 32 (wi x) = x := by
  unfold wi; rw [BitVec.ofInt_natCast]; simp
theorem wrap_wi (x : W) : IntKind.u32.wrap (wi x) = wi x := IntWalk.u32_in _ ⟨wi_nn x, by have := wi_lt x; omega⟩
theorem bits_xor (x y : Int) : bits .xor .u32 x y = wi (BitVec.ofInt 32 x ^^^ BitVec.ofInt 32 y) := by
  unfold bits; exact wrap_wi _
theorem bits_and (x y : Int) : bits .and .u32 x y = wi (BitVec.ofInt 32 x &&& BitVec.ofInt 32 y) := by
  unfold bits; exact wrap_wi _
theorem ofInt_wrap (x : Int) : BitVec.ofInt 32 (IntKind.u32.wrap x) = BitVec.ofInt 32 x := by
  apply BitVec.eq_of_toInt_eq
  simp only [BitVec.toInt_ofInt]
  rw [IntKind.wrap_u32]
  exact Int.emod_bmod x 4294967296
theorem half (x : W) : wi x / (2 : Int) = wi (x >>> (1 : Nat)) := by
  show (x.toNat : Int) / 2 = ((x >>> (1 : Nat)).toNat : Int)
  rw [BitVec.toNat_ushiftRight, Nat.shiftRight_eq_div_pow]; rfl
theorem lsb_dec (x : W) : x.getLsbD 0 = decide (x.toNat % 2 = 1) := by
  rw [BitVec.getLsbD, Nat.testBit_zero]
theorem and_one (x : W) : x &&& 1 = bif x.getLsbD 0 then 1 else 0 := by
  apply BitVec.eq_of_toNat_eq
  rw [BitVec.toNat_and, lsb_dec]
  rw [show (1 : W).toNat = 1 from rfl, Nat.and_one_is_mod]
  rcases Nat.mod_two_eq_zero_or_one x.toNat with h | h <;> rw [h] <;> rfl
/-- One bit, as the code does it. -/
theorem step_code (x : W) : bits .xor .u32 (wi x / 2) (bits .and .u32 3988292384 (IntKind.u32.wrap (0 - bits .and .u32 (wi x) 1))) = wi (bitS x) := by
  rw [bits_and (wi x), bits_and, bits_xor, half, ofInt_wi, ofInt_wi, ofInt_wrap, ofInt_wi]
  congr 1
  unfold bitS
  congr 1
  rw [show BitVec.ofInt 32 1 = (1 : W) from rfl, and_one]
  cases x.getLsbD 0 <;> rfl
/-- One bit, as the document does it. -/
theorem lsb_mod (x : W) : wi x % 2 = bif x.getLsbD 0 then 1 else 0 := by
  unfold wi
  rw [lsb_dec]
  rcases Nat.mod_two_eq_zero_or_one x.toNat with h | h
  · rw [h]; show (x.toNat : Int) % 2 = 0; omega
  · rw [h]; show (x.toNat : Int) % 2 = 1; omega
theorem step_ref1 (x : W) (h : wi x % 2 = 1) : bits .xor .u32 (wi x / 2) 3988292384 = wi (bitS x) := by
  rw [bits_xor, half, ofInt_wi]
  rw [lsb_mod] at h
  unfold bitS
  cases hb : x.getLsbD 0 with
  | false => rw [hb] at h; cases h
  | true => rfl
theorem step_ref0 (x : W) (h : ¬ wi x % 2 = 1) : wi x / 2 = wi (bitS x) := by
  rw [half]
  rw [lsb_mod] at h
  unfold bitS
  cases hb : x.getLsbD 0 with
  | true => rw [hb] at h; exact absurd rfl h
  | false => simp
theorem compl_code (x : W) : bits .xor .u32 4294967295 (wi x) = wi (~~~ x) := by
  rw [bits_xor, ofInt_wi]
  rw [show BitVec.ofInt 32 4294967295 = BitVec.allOnes 32 from rfl, BitVec.allOnes_xor]
theorem xor_byte (x : W) (b : Int) : bits .xor .u32 (wi x) (IntKind.u32.wrap b) = wi (x ^^^ BitVec.ofInt 32 b) := by
  rw [bits_xor, ofInt_wi, ofInt_wrap]
theorem sumS_append (s : W) (a b : List Int) : sumS s (a ++ b) = sumS (sumS s a) b := List.foldl_append ..
theorem sumS_snoc (s : W) (a : List Int) (b : Int) : sumS s (a ++ [b]) = byteS (sumS s a) b := by rw [sumS_append]; rfl
end Go.Proofs.Ytccehcbjihelhaa.Crc
namespace Go.Proofs.Ytccehcbjihelhaa.Crc
theorem take_snoc {α : Type} (l : List α) (i : Nat) (x : α) (h : l[i]? = some x) : l.take (i + 1) = l.take i ++ [x] := by
  rw [List.take_add_one, h]; rfl
theorem sum_byte (s : W) (l : List Int) (j : Nat) (b : Int) (h : l[((j : Int)).toNat]? = some b) : byteS (sumS s (l.take j)) b = sumS s (l.take (j + 1)) := by
  rw [Int.toNat_natCast] at h
  rw [take_snoc l j b h, sumS_snoc]
theorem sum_part (ps : List (Value × List Int)) (i j : Nat) (p : Value × List Int) (h : ps[((i : Int)).toNat]? = some p) (hj : p.2.length ≤ j) :
    sumS (sumS (~~~ 0) ((ps.take i).flatMap (·.2))) (p.2.take j) = sumS (~~~ 0) ((ps.take (i + 1)).flatMap (·.2)) := by
  rw [Int.toNat_natCast] at h
  rw [take_snoc ps i p h, List.flatMap_append, sumS_append, List.take_of_length_le hj]
  simp
end Go.Proofs.Ytccehcbjihelhaa.Crc
namespace Go.Proofs.Ytccehcbjihelhaa.Crc
set_option linter.unusedVariables false
theorem part_snoc (ps : List (Value × List Int)) (i : Nat) (p : Value × List Int) (h : ps[((i : Int)).toNat]? = some p) : (ps.take (i + 1)).flatMap (·.2) = (ps.take i).flatMap (·.2) ++ p.2 := by
  rw [Int.toNat_natCast] at h
  rw [take_snoc ps i p h, List.flatMap_append]; simp
theorem len_part (ps : List (Value × List Int)) (i : Nat) (p : Value × List Int) (h : ps[((i : Int)).toNat]? = some p) : ((ps.take i).flatMap (·.2)).length + p.2.length ≤ (ps.flatMap (·.2)).length := by
  have h1 : (ps.flatMap (·.2)) = ((ps.take (i + 1)).flatMap (·.2)) ++ ((ps.drop (i + 1)).flatMap (·.2)) := by rw [← List.flatMap_append, List.take_append_drop]
  rw [h1, part_snoc ps i p h]; simp only [List.length_append]; omega
theorem len_each (ps : List (Value × List Int)) (p : Value × List Int) (h : p ∈ ps) : p.2.length ≤ (ps.flatMap (·.2)).length := by
  obtain ⟨i, hi⟩ := List.mem_iff_getElem?.1 h
  have := len_part ps i p (by rw [Int.toNat_natCast]; exact hi)
  omega
/-- What is left of a sum when so many bytes have been told. -/
def sh (x : W) : Nat → Int | 0 => wi x | n + 1 => sh x n / 256
theorem sh_eq (x : W) : sh x 0 = wi x ∧ sh x 1 = wi x / 256 ∧ sh x 2 = wi x / 65536 ∧ sh x 3 = wi x / 16777216 := by
  refine ⟨rfl, rfl, ?_, ?_⟩
  · show wi x / 256 / 256 = wi x / 65536; omega
  · show wi x / 256 / 256 / 256 = wi x / 16777216; omega
theorem le4_snoc (x : W) (j : Nat) (h : j < 4) : (le4 x).take (j + 1) = (le4 x).take j ++ [IntKind.u8.wrap (sh x j)] := by
  obtain ⟨h0, h1, h2, h3⟩ := sh_eq x
  have e : ∀ n : Int, IntKind.u8.wrap n = n % 256 := fun n => IntKind.wrap_u8 n
  match j, h with
  | 0, _ => rw [h0, e]; rfl
  | 1, _ => rw [h1, e]; rfl
  | 2, _ => rw [h2, e]; rfl
  | 3, _ => rw [h3, e]; rfl
theorem le4_len (x : W) : (le4 x).length = 4 := rfl
theorem le4_get (x : W) (j : Nat) (h : j < 4) : (le4 x)[j]? = some (IntKind.u8.wrap (sh x j)) := by
  have := congrArg (fun l => l[j]?) (le4_snoc x j h)
  simp only [List.getElem?_take, show j < j + 1 by omega, if_true] at this
  rw [this, List.getElem?_append_right (by rw [List.length_take]; exact Nat.min_le_left _ _), List.length_take, le4_len, Nat.min_eq_left (by omega), Nat.sub_self]
  rfl
theorem seal_len (l : List Int) : (seal_ l).length = l.length + 4 := by simp [seal_, le4]
/-- What opening sealed bytes tells: the error's number, the bytes. -/
def openE (xs : List Int) : Int := if xs.length < 4 then 15 else if xs = seal_ (xs.take (xs.length - 4)) then 0 else 14
def openB (xs : List Int) : List Int := if xs.length < 4 then [] else if xs = seal_ (xs.take (xs.length - 4)) then xs.take (xs.length - 4) else []
theorem open_seal (l : List Int) : openE (seal_ l) = 0 ∧ openB (seal_ l) = l := by
  have h1 : ¬ (seal_ l).length < 4 := by rw [seal_len]; omega
  have h2 : (seal_ l).take ((seal_ l).length - 4) = l := by rw [seal_len]; simp [seal_]
  unfold openE openB
  rw [if_neg h1, if_neg h1, h2, if_pos rfl, if_pos rfl]
  exact ⟨rfl, rfl⟩
/-- The tail told byte by byte. -/
theorem open_ok (xs : List Int) (h4 : ¬ xs.length < 4) (h : (xs.drop (xs.length - 4)).take 4 = (le4 (crc (xs.take (xs.length - 4)))).take 4) : xs = seal_ (xs.take (xs.length - 4)) := by
  rw [List.take_of_length_le (by simp; omega), List.take_of_length_le (by rw [le4_len]; omega)] at h
  unfold seal_
  rw [← h, List.take_append_drop]
theorem open_no (xs : List Int) (x : Int) (j : Nat) (hj : j < 4) (h4 : ¬ xs.length < 4) (hx : (xs.drop (xs.length - 4))[j]? = some x) (hne : x ≠ IntKind.u8.wrap (sh (crc (xs.take (xs.length - 4))) j)) : ¬ xs = seal_ (xs.take (xs.length - 4)) := by
  intro e
  apply hne
  have h1 := congrArg (fun l => (l.drop (xs.length - 4))[j]?) e
  simp only [seal_] at h1
  rw [hx, List.drop_append, List.length_take, Nat.min_eq_left (by omega), Nat.sub_self, List.drop_zero, List.drop_eq_nil_of_le (by simp), List.nil_append, le4_get _ j hj] at h1
  exact Option.some.inj h1
theorem take_eq_snoc {α : Type} (xs ys : List α) (i : Nat) (x : α) (h : xs.take i = ys.take i) (hx : xs[i]? = some x) (hy : ys[i]? = some x) : xs.take (i + 1) = ys.take (i + 1) := by
  rw [take_snoc xs i x hx, take_snoc ys i x hy, h]
end Go.Proofs.Ytccehcbjihelhaa.Crc
namespace Go.Proofs.Ytccehcbjihelhaa.Crc
theorem openB_len (xs : List Int) : (openB xs).length ≤ xs.length := by
  unfold openB; split
  · simp
  · split
    · simp
    · simp
/-- Sealed so many times. -/
def sealN (l : List Int) : Nat → List Int | 0 => l | n + 1 => seal_ (sealN l n)
theorem sealN_len (l : List Int) (n : Nat) : (sealN l n).length = l.length + 4 * n := by
  induction n with
  | zero => rfl
  | succ n ih => rw [sealN, seal_len, ih]; omega
theorem sealN_open (l : List Int) (n m : Nat) (h : m < n) : openE (sealN l (n - m)) = 0 ∧ openB (sealN l (n - m)) = sealN l (n - (m + 1)) := by
  obtain ⟨k, rfl⟩ : ∃ k, n = m + 1 + k := ⟨n - (m + 1), by omega⟩
  rw [show m + 1 + k - m = k + 1 by omega, show m + 1 + k - (m + 1) = k by omega]
  exact open_seal _
end Go.Proofs.Ytccehcbjihelhaa.Crc
namespace Go.Proofs.Ytccehcbjihelhaa.Crc
set_option linter.unusedVariables false
/-! ### bits that are turned over -/
theorem bitS_xor (x y : W) : bitS (x ^^^ y) = bitS x ^^^ bitS y := by
  unfold bitS
  rw [BitVec.ushiftRight_xor_distrib, BitVec.getLsbD_xor]
  cases x.getLsbD 0 <;> cases y.getLsbD 0 <;> simp only [Bool.false_xor, Bool.true_xor, Bool.not_true, Bool.not_false, cond_true, cond_false, BitVec.xor_zero]
  · exact (BitVec.xor_assoc _ _ _)
  · rw [BitVec.xor_assoc, BitVec.xor_comm (y >>> 1), BitVec.xor_assoc]
  · rw [BitVec.xor_assoc (x >>> 1), BitVec.xor_comm (y >>> 1), ← BitVec.xor_assoc poly, BitVec.xor_self, BitVec.zero_xor]
theorem iter_xor (n : Nat) (x y : W) : iter n (x ^^^ y) = iter n x ^^^ iter n y := by
  induction n with
  | zero => rfl
  | succ n ih => simp only [iter]; rw [ih, bitS_xor]
theorem iter_add (n m : Nat) (x : W) : iter (n + m) x = iter n (iter m x) := by
  induction n with
  | zero => rw [Nat.zero_add]; rfl
  | succ n ih => rw [Nat.succ_add]; simp only [iter]; rw [ih]
theorem bitS_inj0 (x : W) (h : bitS x = 0#32) : x = 0#32 := by
  unfold bitS at h
  cases hb : x.getLsbD 0 with
  | true =>
    rw [hb] at h
    have := congrArg (fun z : W => z.getLsbD 31) h
    simp [poly] at this
  | false =>
    rw [hb] at h
    simp only [cond_false, BitVec.xor_zero] at h
    apply BitVec.eq_of_getLsbD_eq
    intro i hi
    rw [BitVec.getLsbD_zero]
    cases i with
    | zero => exact hb
    | succ i =>
      have := congrArg (fun z : W => z.getLsbD i) h
      simp only [BitVec.getLsbD_ushiftRight, BitVec.getLsbD_zero] at this
      rw [Nat.add_comm]; exact this
theorem iter_ne (n : Nat) (x : W) (h : x ≠ 0#32) : iter n x ≠ 0#32 := by
  induction n with
  | zero => exact h
  | succ n ih => exact fun e => ih (bitS_inj0 _ e)
theorem bitS_shl (j : Nat) (hj : j + 1 < 32) : bitS (1#32 <<< (j + 1)) = 1#32 <<< j := by
  unfold bitS
  have h0 : (1#32 <<< (j + 1)).getLsbD 0 = false := by simp
  rw [h0]
  simp only [cond_false, BitVec.xor_zero]
  apply BitVec.eq_of_getLsbD_eq
  intro i hi
  simp only [BitVec.getLsbD_ushiftRight, BitVec.getLsbD_shiftLeft]
  by_cases h : i < j
  · have : 1 + i < j + 1 := by omega
    simp [h, this]
  · have e : 1 + i - (j + 1) = i - j := by omega
    have h1 : ¬ (1 + i < j + 1) := by omega
    rw [e]
    by_cases h31 : 1 + i < 32
    · simp [h, h1, h31, hi]
    · have : (1#32).getLsbD (i - j) = false := by
        have hne : i - j ≠ 0 := by omega
        rw [BitVec.getLsbD_ofNat]
        simp [Nat.testBit, Nat.shiftRight_eq_div_pow]; intro _; rw [Nat.div_eq_of_lt (Nat.one_lt_two_pow hne)]
      simp [this]
theorem iter_shl (j : Nat) (hj : j < 32) : iter j (1#32 <<< j) = 1#32 := by
  induction j with
  | zero => rfl
  | succ j ih => rw [iter_add j 1]; simp only [iter]; rw [bitS_shl j hj]; exact ih (by omega)
theorem iter_pos (m j : Nat) (hj : j < 32) (hm : j ≤ m) : iter (m - j) 1#32 = iter m (1#32 <<< j) := by
  have : m = (m - j) + j := by omega
  conv => rhs; rw [this, iter_add]
  rw [iter_shl j hj]
theorem byteS_xor (x y : W) (b : Int) : byteS (x ^^^ y) b = byteS x b ^^^ iter 8 y := by
  unfold byteS
  rw [BitVec.xor_assoc, BitVec.xor_comm y, ← BitVec.xor_assoc, iter_xor]
theorem sumS_xor : ∀ (l : List Int) (x y : W), sumS (x ^^^ y) l = sumS x l ^^^ iter (8 * l.length) y
  | [], x, y => rfl
  | b :: l, x, y => by
    show sumS (byteS (x ^^^ y) b) l = sumS (byteS x b) l ^^^ _
    rw [byteS_xor, sumS_xor l, ← iter_add]
    rw [List.length_cons, Nat.mul_succ]
theorem ofInt_xor8 (x : Int) (j : Nat) (h0 : 0 ≤ x) (h1 : x < 256) (hj : j < 8) : BitVec.ofInt 32 (bits .xor .u8 x (2 ^ j)) = BitVec.ofInt 32 x ^^^ (1#32 <<< j) ∧ 0 ≤ bits .xor .u8 x (2 ^ j) ∧ bits .xor .u8 x (2 ^ j) < 256 := by
  obtain ⟨n, rfl⟩ := Int.eq_ofNat_of_zero_le h0
  have hn : n < 256 := by omega
  have hp : 2 ^ j < 256 := by
    have : (2 : Nat) ^ j < 2 ^ 8 := Nat.pow_lt_pow_right (by decide) hj
    omega
  have hx : n ^^^ 2 ^ j < 256 := Nat.xor_lt_two_pow (n := 8) hn hp
  have e : bits .xor .u8 (n : Int) (2 ^ j) = ((n ^^^ 2 ^ j : Nat) : Int) := by
    unfold bits
    show IntKind.u8.wrap _ = _
    rw [show ((2 : Int) ^ j) = ((2 ^ j : Nat) : Int) by push_cast; rfl]
    rw [BitVec.ofInt_natCast, BitVec.ofInt_natCast, BitVec.toNat_xor, BitVec.toNat_ofNat, BitVec.toNat_ofNat]
    rw [show (2 ^ IntKind.bits .u8) = 256 from rfl, Nat.mod_eq_of_lt hn, Nat.mod_eq_of_lt hp]
    exact IntWalk.u8_in _ ⟨by omega, by omega⟩
  rw [e]
  refine ⟨?_, by omega, by omega⟩
  rw [BitVec.ofInt_natCast, BitVec.ofInt_natCast]
  apply BitVec.eq_of_toNat_eq
  have h2 : 2 ^ j < 4294967296 := by omega
  rw [BitVec.toNat_xor, BitVec.toNat_ofNat, BitVec.toNat_ofNat, BitVec.toNat_shiftLeft, Nat.shiftLeft_eq]
  rw [show (1#32).toNat = 1 from rfl, Nat.one_mul, Nat.mod_eq_of_lt (show n < 2 ^ 32 by omega), Nat.mod_eq_of_lt (show 2 ^ j < 2 ^ 32 by omega), Nat.mod_eq_of_lt (by omega)]
/-- One bit turned over: what becomes of the sum. -/
theorem sumS_flip (l : List Int) (k j : Nat) (hk : k < l.length) (hj : j < 8) (h0 : 0 ≤ l[k]) (h1 : l[k] < 256) (s : W) :
    sumS s (l.set k (bits .xor .u8 l[k] (2 ^ j))) = sumS s l ^^^ iter (8 * l.length - (8 * k + j)) 1#32 := by
  have hl : l = l.take k ++ l[k] :: l.drop (k + 1) := by rw [List.getElem_cons_drop, List.take_append_drop]
  have hs : l.set k (bits .xor .u8 l[k] (2 ^ j)) = l.take k ++ bits .xor .u8 l[k] (2 ^ j) :: l.drop (k + 1) := by
    rw [List.set_eq_take_append_cons_drop, if_pos hk]
  rw [hs]
  conv => rhs; rw [show sumS s l = sumS s (l.take k ++ l[k] :: l.drop (k + 1)) by rw [← hl]]
  rw [sumS_append, sumS_append]
  show sumS (byteS _ _) _ = sumS (byteS _ _) _ ^^^ _
  have hb : ∀ x : W, byteS x (bits .xor .u8 l[k] (2 ^ j)) = byteS x l[k] ^^^ iter (8 - j) 1#32 := fun x => by
    unfold byteS
    rw [(ofInt_xor8 l[k] j h0 h1 hj).1, ← BitVec.xor_assoc, iter_xor, iter_pos 8 j (by omega) (by omega)]
  rw [hb, sumS_xor, ← iter_add]
  congr 2
  rw [List.length_drop]
  omega
def low (f : W) : Nat → W | 0 => 0#32 | i + 1 => low f i ^^^ (bif f.getLsbD i then 1#32 <<< i else 0#32)
theorem low_get (f : W) : ∀ (i p : Nat), i ≤ 32 → (low f i).getLsbD p = (decide (p < i) && f.getLsbD p)
  | 0, p, _ => by simp [low]
  | i + 1, p, h => by
    rw [low, BitVec.getLsbD_xor, low_get f i p (by omega)]
    by_cases hp : p = i
    · subst hp
      cases f.getLsbD p <;> simp; omega
    · have h1 : (bif f.getLsbD i then 1#32 <<< i else 0#32).getLsbD p = false := by
        cases f.getLsbD i with
        | false => simp
        | true =>
          simp only [cond_true, BitVec.getLsbD_shiftLeft]
          by_cases hlt : p < i
          · simp [hlt]
          · have hne : p - i ≠ 0 := by omega
            have : (1#32).getLsbD (p - i) = false := by
              rw [BitVec.getLsbD_ofNat]
              simp [Nat.testBit, Nat.shiftRight_eq_div_pow]; intro _; rw [Nat.div_eq_of_lt (Nat.one_lt_two_pow hne)]
            simp [this]
      rw [h1, Bool.xor_false]
      congr 1
      simp only [decide_eq_decide]
      omega
theorem low_all (f : W) : low f 32 = f := by
  apply BitVec.eq_of_getLsbD_eq
  intro i hi
  rw [low_get f 32 i (by omega)]
  simp [hi]
theorem shr_bit (f : W) (i : Nat) (hi : i < 32) : ((wi f).fdiv (2 ^ (min ((i : Int)).toNat 32))) % 2 = bif f.getLsbD i then 1 else 0 := by
  rw [Int.toNat_natCast, Nat.min_eq_left (by omega)]
  rw [Int.fdiv_eq_ediv_of_nonneg _ (by exact Int.le_of_lt (Int.pow_pos (by decide)))]
  have h1 : wi f / 2 ^ i = wi (f >>> i) := by
    unfold wi
    rw [BitVec.toNat_ushiftRight, Nat.shiftRight_eq_div_pow]
    push_cast; rfl
  rw [h1, lsb_mod]
  have : (f >>> i).getLsbD 0 = f.getLsbD i := by simp
  rw [this]
theorem shr_bit' (f : W) (i : Nat) (hi : i < 32) : ((wi f).fdiv (2 ^ (min ((i : Int)).toNat IntKind.u32.bits))).tmod 2 = bif f.getLsbD i then 1 else 0 := by
  rw [show IntKind.u32.bits = 32 from rfl, Int.tmod_eq_emod_of_nonneg (Int.fdiv_nonneg (wi_nn f) (Int.le_of_lt (Int.pow_pos (by decide))))]
  exact shr_bit f i hi
theorem le4_inj (x y : W) (h : le4 x = le4 y) : x = y := by
  unfold le4 at h
  simp only [List.cons.injEq, and_true] at h
  obtain ⟨h0, h1, h2, h3⟩ := h
  apply BitVec.eq_of_toNat_eq
  have hx := x.isLt; have hy := y.isLt
  omega
theorem open_flip (T bs : List Int) (h : crc T ≠ crc bs) : openE (T ++ le4 (crc bs)) = 14 ∧ openB (T ++ le4 (crc bs)) = [] := by
  have hl : (T ++ le4 (crc bs)).length = T.length + 4 := by rw [List.length_append, le4_len]
  have h1 : ¬ (T ++ le4 (crc bs)).length < 4 := by omega
  have h2 : (T ++ le4 (crc bs)).take ((T ++ le4 (crc bs)).length - 4) = T := by rw [hl]; simp
  have h3 : ¬ (T ++ le4 (crc bs)) = seal_ T := by
    intro e
    unfold seal_ at e
    exact h (le4_inj _ _ (List.append_cancel_left e)).symm
  unfold openE openB
  rw [if_neg h1, if_neg h1, h2, if_neg h3, if_neg h3]
  exact ⟨rfl, rfl⟩
end Go.Proofs.Ytccehcbjihelhaa.Crc
namespace Go.Proofs.Ytccehcbjihelhaa.Crc
set_option linter.unusedVariables false
/-- A bit's place in a byte, as a number. -/
def bitI (p : Int) : Int := 2 ^ (p % 8).toNat
theorem bit_code (p : Int) (h : 0 ≤ p) : IntKind.u8.wrap (1 * 2 ^ (min (p % 8).toNat 8)) = bitI p := by
  have h8 : (p % 8).toNat < 8 := by omega
  rw [Nat.min_eq_left (by omega), Int.one_mul]
  unfold bitI
  have : (2 : Nat) ^ (p % 8).toNat < 2 ^ 8 := Nat.pow_lt_pow_right (by decide) h8
  have e : ((2 : Int) ^ (p % 8).toNat) = ((2 ^ (p % 8).toNat : Nat) : Int) := by push_cast; rfl
  rw [e]
  exact IntWalk.u8_in _ ⟨Int.natCast_nonneg _, Int.ofNat_le.2 (by omega : 2 ^ (p % 8).toNat ≤ 255)⟩
def okB (l : List Int) : Prop := ∀ x ∈ l, 0 ≤ x ∧ x < 256
theorem okB_wf {l : List Int} (h : ∀ x ∈ l, (Lit.int .u8 x).wf = true) : okB l := fun x hx => by
  have := h x hx
  simp only [Lit.wf, IntKind.min, IntKind.max, IntKind.signed, IntKind.bits, Bool.and_eq_true, decide_eq_true_eq] at this
  simp at this; omega
/-- What the round i of the turning-over keeps. -/
def Fl (bs : List Int) (at_ : Int) (f : W) (i : Nat) (T : List Int) : Prop :=
  T.length = bs.length ∧ okB T ∧ sumS (~~~ 0) T = sumS (~~~ 0) bs ^^^ iter (8 * bs.length - at_.toNat) (low f i)
theorem Fl.start {bs : List Int} {at_ : Int} {f : W} (h : okB bs) : Fl bs at_ f 0 bs := by
  refine ⟨rfl, h, ?_⟩
  have : ∀ n, iter n (0#32) = 0#32 := fun n => by
    induction n with
    | zero => rfl
    | succ n ih => simp only [iter]; rw [ih]; rfl
  rw [low, this, BitVec.xor_zero]
theorem Fl.skip {bs T : List Int} {at_ : Int} {f : W} {i : Nat} (h : Fl bs at_ f i T) (hb : f.getLsbD i = false) : Fl bs at_ f (i + 1) T := by
  obtain ⟨h1, h2, h3⟩ := h
  refine ⟨h1, h2, ?_⟩
  rw [h3, low, hb, cond_false, BitVec.xor_zero]
theorem Fl.flip {bs T : List Int} {at_ : Int} {f : W} {i : Nat} (h : Fl bs at_ f i T) (hb : f.getLsbD i = true) (hi : i < 32) (h0 : 0 ≤ at_) (k : Nat) (hk : (k : Int) = (at_ + i) / 8) (hkl : k < T.length) :
    Fl bs at_ f (i + 1) (T.set k (bits .xor .u8 T[k] (bitI (at_ + i)))) := by
  obtain ⟨h1, h2, h3⟩ := h
  have hx := h2 T[k] (List.getElem_mem hkl)
  have h8 : ((at_ + i) % 8).toNat < 8 := by omega
  have hbt : bitI (at_ + i) = 2 ^ ((at_ + i) % 8).toNat := rfl
  refine ⟨by rw [List.length_set]; exact h1, fun y hy => ?_, ?_⟩
  · rcases List.mem_or_eq_of_mem_set hy with hy | rfl
    · exact h2 y hy
    · rw [hbt]; exact (ofInt_xor8 T[k] _ hx.1 hx.2 h8).2
  · rw [hbt, sumS_flip T k _ hkl h8 hx.1 hx.2, h3, low, hb, cond_true, iter_xor, ← BitVec.xor_assoc]
    congr 1
    rw [← iter_pos (8 * bs.length - at_.toNat) i hi (by omega)]
    congr 1
    omega
theorem Fl.done {bs T : List Int} {at_ : Int} {f : W} (h : Fl bs at_ f 32 T) (hf : f ≠ 0#32) : crc T ≠ crc bs := by
  obtain ⟨h1, h2, h3⟩ := h
  intro e
  unfold crc at e
  have e2 : sumS (~~~ 0) T = sumS (~~~ 0) bs := by
    have := congrArg (fun z : W => ~~~ z) e
    simpa using this
  rw [h3, low_all] at e2
  have e3 : iter (8 * bs.length - at_.toNat) f = 0#32 := by
    have := congrArg (fun z : W => sumS (~~~ 0) bs ^^^ z) e2
    simp only [← BitVec.xor_assoc, BitVec.xor_self, BitVec.zero_xor] at this
    exact this
  exact iter_ne _ f hf e3
theorem wi_zero (f : W) : wi f = 0 ↔ f = 0#32 := by
  unfold wi
  constructor
  · intro h; apply BitVec.eq_of_toNat_eq; simp; omega
  · intro h; rw [h]; rfl
theorem set_append_left' (T S : List Int) (k : Nat) (x : Int) (hk : k < T.length) : (T ++ S).set k x = T.set k x ++ S := by
  rw [List.set_append_left _ _ hk]
theorem wi_of {n : Int} (h : (Lit.int .u32 n).wf = true) : ∃ f : W, n = wi f := by
  simp only [Lit.wf, IntKind.min, IntKind.max, IntKind.signed, IntKind.bits, Bool.and_eq_true, decide_eq_true_eq] at h
  simp at h
  exact ⟨BitVec.ofInt 32 n, by unfold wi; rw [BitVec.toNat_ofInt]; simp; omega⟩
end Go.Proofs.Ytccehcbjihelhaa.Crc

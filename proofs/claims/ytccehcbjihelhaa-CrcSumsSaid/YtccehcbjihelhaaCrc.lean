/- Sums that tell spoilt bytes, over words of 32 bits: what the code and the document reckon is one. -/
import Derived.Laws.Entries
import Derived.IntWalk
namespace Go.Proofs.Ytccehcbjihelhaa.Crc
set_option linter.unusedVariables false
abbrev W := BitVec 32
def poly : W := 0xEDB88320
def bitS (x : W) : W := (x >>> (1 : Nat)) ^^^ (bif x.getLsbD 0 then poly else 0)
def iter : Nat → W → W | 0, x => x | n + 1, x => bitS (iter n x)
def byteS (x : W) (b : Int) : W := iter 8 (x ^^^ BitVec.ofInt 32 b)
def sumS (s : W) (l : List Int) : W := l.foldl byteS s
def crc (l : List Int) : W := ~~~ (sumS (~~~ 0) l)
def le4 (x : W) : List Int := [x.toNat % 256, x.toNat / 256 % 256, x.toNat / 65536 % 256, x.toNat / 16777216 % 256]
def seal_ (l : List Int) : List Int := l ++ le4 (crc l)
/-- A word as a number. -/
def wi (x : W) : Int := (x.toNat : Int)
theorem wi_lt (x : W) : wi x < 4294967296 := by unfold wi; have := x.isLt; omega
theorem wi_nn (x : W) : 0 ≤ wi x := by unfold wi; omega
theorem ofInt_wi (x : W) : BitVec.ofInt 32 (wi x) = x := by
  unfold wi; rw [BitVec.ofInt_natCast]; simp
theorem wrap_wi (x : W) : IntKind.u32.wrap (wi x) = wi x := IntWalk.u32_in _ ⟨wi_nn x, by have := wi_lt x; omega⟩
theorem bits_xor (x y : Int) : bits .xor .u32 x y = wi (BitVec.ofInt 32 x ^^^ BitVec.ofInt 32 y) := by
  unfold bits; exact wrap_wi _
theorem bits_and (x y : Int) : bits .and .u32 x y = wi (BitVec.ofInt 32 x &&& BitVec.ofInt 32 y) := by
  unfold bits; exact wrap_wi _
theorem ofInt_wrap (x : Int) : BitVec.ofInt 32 (IntKind.u32.wrap x) = BitVec.ofInt 32 x := by
  apply BitVec.eq_of_toInt_eq
  simp only [BitVec.toInt_ofInt]
  rw [IntKind.wrap_u32]
  exact Int.emod_bmod x 4294967296
theorem half (x : W) : wi x / (2 : Int) = wi (x >>> (1 : Nat)) := by
  show (x.toNat : Int) / 2 = ((x >>> (1 : Nat)).toNat : Int)
  rw [BitVec.toNat_ushiftRight, Nat.shiftRight_eq_div_pow]; rfl
theorem lsb_dec (x : W) : x.getLsbD 0 = decide (x.toNat % 2 = 1) := by
  rw [BitVec.getLsbD, Nat.testBit_zero]
theorem and_one (x : W) : x &&& 1 = bif x.getLsbD 0 then 1 else 0 := by
  apply BitVec.eq_of_toNat_eq
  rw [BitVec.toNat_and, lsb_dec]
  rw [show (1 : W).toNat = 1 from rfl, Nat.and_one_is_mod]
  rcases Nat.mod_two_eq_zero_or_one x.toNat with h | h <;> rw [h] <;> rfl
/-- One bit, as the code does it. -/
theorem step_code (x : W) : bits .xor .u32 (wi x / 2) (bits .and .u32 3988292384 (IntKind.u32.wrap (0 - bits .and .u32 (wi x) 1))) = wi (bitS x) := by
  rw [bits_and (wi x), bits_and, bits_xor, half, ofInt_wi, ofInt_wi, ofInt_wrap, ofInt_wi]
  congr 1
  unfold bitS
  congr 1
  rw [show BitVec.ofInt 32 1 = (1 : W) from rfl, and_one]
  cases x.getLsbD 0 <;> rfl
/-- One bit, as the document does it. -/
theorem lsb_mod (x : W) : wi x % 2 = bif x.getLsbD 0 then 1 else 0 := by
  unfold wi
  rw [lsb_dec]
  rcases Nat.mod_two_eq_zero_or_one x.toNat with h | h
  · rw [h]; show (x.toNat : Int) % 2 = 0; omega
  · rw [h]; show (x.toNat : Int) % 2 = 1; omega
theorem step_ref1 (x : W) (h : wi x % 2 = 1) : bits .xor .u32 (wi x / 2) 3988292384 = wi (bitS x) := by
  rw [bits_xor, half, ofInt_wi]
  rw [lsb_mod] at h
  unfold bitS
  cases hb : x.getLsbD 0 with
  | false => rw [hb] at h; cases h
  | true => rfl
theorem step_ref0 (x : W) (h : ¬ wi x % 2 = 1) : wi x / 2 = wi (bitS x) := by
  rw [half]
  rw [lsb_mod] at h
  unfold bitS
  cases hb : x.getLsbD 0 with
  | true => rw [hb] at h; exact absurd rfl h
  | false => simp
theorem compl_code (x : W) : bits .xor .u32 4294967295 (wi x) = wi (~~~ x) := by
  rw [bits_xor, ofInt_wi]
  rw [show BitVec.ofInt 32 4294967295 = BitVec.allOnes 32 from rfl, BitVec.allOnes_xor]
theorem xor_byte (x : W) (b : Int) : bits .xor .u32 (wi x) (IntKind.u32.wrap b) = wi (x ^^^ BitVec.ofInt 32 b) := by
  rw [bits_xor, ofInt_wi, ofInt_wrap]
theorem sumS_append (s : W) (a b : List Int) : sumS s (a ++ b) = sumS (sumS s a) b := List.foldl_append ..
theorem sumS_snoc (s : W) (a : List Int) (b : Int) : sumS s (a ++ [b]) = byteS (sumS s a) b := by rw [sumS_append]; rfl
end Go.Proofs.Ytccehcbjihelhaa.Crc
namespace Go.Proofs.Ytccehcbjihelhaa.Crc
theorem take_snoc {α : Type} (l : List α) (i : Nat) (x : α) (h : l[i]? = some x) : l.take (i + 1) = l.take i ++ [x] := by
  rw [List.take_add_one, h]; rfl
theorem sum_byte (s : W) (l : List Int) (j : Nat) (b : Int) (h : l[((j : Int)).toNat]? = some b) : byteS (sumS s (l.take j)) b = sumS s (l.take (j + 1)) := by
  rw [Int.toNat_natCast] at h
  rw [take_snoc l j b h, sumS_snoc]
theorem sum_part (ps : List (Value × List Int)) (i j : Nat) (p : Value × List Int) (h : ps[((i : Int)).toNat]? = some p) (hj : p.2.length ≤ j) :
    sumS (sumS (~~~ 0) ((ps.take i).flatMap (·.2))) (p.2.take j) = sumS (~~~ 0) ((ps.take (i + 1)).flatMap (·.2)) := by
  rw [Int.toNat_natCast] at h
  rw [take_snoc ps i p h, List.flatMap_append, sumS_append, List.take_of_length_le hj]
  simp
end Go.Proofs.Ytccehcbjihelhaa.Crc
namespace Go.Proofs.Ytccehcbjihelhaa.Crc
set_option linter.unusedVariables false
theorem part_snoc (ps : List (Value × List Int)) (i : Nat) (p : Value × List Int) (h : ps[((i : Int)).toNat]? = some p) : (ps.take (i + 1)).flatMap (·.2) = (ps.take i).flatMap (·.2) ++ p.2 := by
  rw [Int.toNat_natCast] at h
  rw [take_snoc ps i p h, List.flatMap_append]; simp
theorem len_part (ps : List (Value × List Int)) (i : Nat) (p : Value × List Int) (h : ps[((i : Int)).toNat]? = some p) : ((ps.take i).flatMap (·.2)).length + p.2.length ≤ (ps.flatMap (·.2)).length := by
  have h1 : (ps.flatMap (·.2)) = ((ps.take (i + 1)).flatMap (·.2)) ++ ((ps.drop (i + 1)).flatMap (·.2)) := by rw [← List.flatMap_append, List.take_append_drop]
  rw [h1, part_snoc ps i p h]; simp only [List.length_append]; omega
theorem len_each (ps : List (Value × List Int)) (p : Value × List Int) (h : p ∈ ps) : p.2.length ≤ (ps.flatMap (·.2)).length := by
  obtain ⟨i, hi⟩ := List.mem_iff_getElem?.1 h
  have := len_part ps i p (by rw [Int.toNat_natCast]; exact hi)
  omega
/-- What is left of a sum when so many bytes have been told. -/
def sh (x : W) : Nat → Int | 0 => wi x | n + 1 => sh x n / 256
theorem sh_eq (x : W) : sh x 0 = wi x ∧ sh x 1 = wi x / 256 ∧ sh x 2 = wi x / 65536 ∧ sh x 3 = wi x / 16777216 := by
  refine ⟨rfl, rfl, ?_, ?_⟩
  · show wi x / 256 / 256 = wi x / 65536; omega
  · show wi x / 256 / 256 / 256 = wi x / 16777216; omega
theorem le4_snoc (x : W) (j : Nat) (h : j < 4) : (le4 x).take (j + 1) = (le4 x).take j ++ [IntKind.u8.wrap (sh x j)] := by
  obtain ⟨h0, h1, h2, h3⟩ := sh_eq x
  have e : ∀ n : Int, IntKind.u8.wrap n = n % 256 := fun n => IntKind.wrap_u8 n
  match j, h with
  | 0, _ => rw [h0, e]; rfl
  | 1, _ => rw [h1, e]; rfl
  | 2, _ => rw [h2, e]; rfl
  | 3, _ => rw [h3, e]; rfl
theorem le4_len (x : W) : (le4 x).length = 4 := rfl
theorem le4_get (x : W) (j : Nat) (h : j < 4) : (le4 x)[j]? = some (IntKind.u8.wrap (sh x j)) := by
  have := congrArg (fun l => l[j]?) (le4_snoc x j h)
  simp only [List.getElem?_take, show j < j + 1 by omega, if_true] at this
  rw [this, List.getElem?_append_right (by rw [List.length_take]; exact Nat.min_le_left _ _), List.length_take, le4_len, Nat.min_eq_left (by omega), Nat.sub_self]
  rfl
theorem seal_len (l : List Int) : (seal_ l).length = l.length + 4 := by simp [seal_, le4]
/-- What opening sealed bytes tells: the error's number, the bytes. -/
def openE (xs : List Int) : Int := if xs.length < 4 then 15 else if xs = seal_ (xs.take (xs.length - 4)) then 0 else 14
def openB (xs : List Int) : List Int := if xs.length < 4 then [] else if xs = seal_ (xs.take (xs.length - 4)) then xs.take (xs.length - 4) else []
theorem open_seal (l : List Int) : openE (seal_ l) = 0 ∧ openB (seal_ l) = l := by
  have h1 : ¬ (seal_ l).length < 4 := by rw [seal_len]; omega
  have h2 : (seal_ l).take ((seal_ l).length - 4) = l := by rw [seal_len]; simp [seal_]
  unfold openE openB
  rw [if_neg h1, if_neg h1, h2, if_pos rfl, if_pos rfl]
  exact ⟨rfl, rfl⟩
/-- The tail told byte by byte. -/
theorem open_ok (xs : List Int) (h4 : ¬ xs.length < 4) (h : (xs.drop (xs.length - 4)).take 4 = (le4 (crc (xs.take (xs.length - 4)))).take 4) : xs = seal_ (xs.take (xs.length - 4)) := by
  rw [List.take_of_length_le (by simp; omega), List.take_of_length_le (by rw [le4_len]; omega)] at h
  unfold seal_
  rw [← h, List.take_append_drop]
theorem open_no (xs : List Int) (x : Int) (j : Nat) (hj : j < 4) (h4 : ¬ xs.length < 4) (hx : (xs.drop (xs.length - 4))[j]? = some x) (hne : x ≠ IntKind.u8.wrap (sh (crc (xs.take (xs.length - 4))) j)) : ¬ xs = seal_ (xs.take (xs.length - 4)) := by
  intro e
  apply hne
  have h1 := congrArg (fun l => (l.drop (xs.length - 4))[j]?) e
  simp only [seal_] at h1
  rw [hx, List.drop_append, List.length_take, Nat.min_eq_left (by omega), Nat.sub_self, List.drop_zero, List.drop_eq_nil_of_le (by simp), List.nil_append, le4_get _ j hj] at h1
  exact Option.some.inj h1
theorem take_eq_snoc {α : Type} (xs ys : List α) (i : Nat) (x : α) (h : xs.take i = ys.take i) (hx : xs[i]? = some x) (hy : ys[i]? = some x) : xs.take (i + 1) = ys.take (i + 1) := by
  rw [take_snoc xs i x hx, take_snoc ys i x hy, h]
end Go.Proofs.Ytccehcbjihelhaa.Crc
namespace Go.Proofs.Ytccehcbjihelhaa.Crc
theorem openB_len (xs : List Int) : (openB xs).length ≤ xs.length := by
  unfold openB; split
  · simp
  · split
    · simp
    · simp
/-- Sealed so many times. -/
def sealN (l : List Int) : Nat → List Int | 0 => l | n + 1 => seal_ (sealN l n)
theorem sealN_len (l : List Int) (n : Nat) : (sealN l n).length = l.length + 4 * n := by
  induction n with
  | zero => rfl
  | succ n ih => rw [sealN, seal_len, ih]; omega
theorem sealN_open (l : List Int) (n m : Nat) (h : m < n) : openE (sealN l (n - m)) = 0 ∧ openB (sealN l (n - m)) = sealN l (n - (m + 1)) := by
  obtain ⟨k, rfl⟩ : ∃ k, n = m + 1 + k := ⟨n - (m + 1), by omega⟩
  rw [show m + 1 + k - m = k + 1 by omega, show m + 1 + k - (m + 1) = k by omega]
  exact open_seal _
end Go.Proofs.Ytccehcbjihelhaa.Crc

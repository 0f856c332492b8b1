/- What readers of bytes tell, what writers write: rows of numbers and texts. -/
import Derived.Test.YtcbfmbcmokafpaaCode
namespace Go.Proofs.Ytcbfmbcmokafpaa.B
set_option linter.unusedVariables false
set_option linter.unusedSimpArgs false

def uB (xs : List Int) : List Int := xs.flatMap fun x => ub x.toNat
def iB (xs : List Int) : List Int := xs.flatMap fun x => ub (turn x).toNat
def tB (xs : List ByteArray) : List Int := xs.flatMap fun s => ub s.size ++ sB s
theorem getI {α : Type} {xs : List α} {i : Nat} {u : α} (hu : xs[((i : Int)).toNat]? = some u) : xs[i]? = some u := by rwa [Int.toNat_natCast] at hu
theorem getI2 {α : Type} {xs : List α} {i : Nat} {u : α} (hu : xs[((i : Int)).toNat]? = some u) {h : i < xs.length} : xs[i] = u := by
  have := getI hu
  rw [List.getElem?_eq_getElem h] at this
  exact Option.some.inj this
theorem uB_succ {xs : List Int} {i : Nat} {u : Int} (hu : xs[i]? = some u) : uB (xs.take (i + 1)) = uB (xs.take i) ++ ub u.toNat := by
  unfold uB; rw [List.take_add_one, hu, List.flatMap_append]; simp
theorem iB_succ {xs : List Int} {i : Nat} {u : Int} (hu : xs[i]? = some u) : iB (xs.take (i + 1)) = iB (xs.take i) ++ ub (turn u).toNat := by
  unfold iB; rw [List.take_add_one, hu, List.flatMap_append]; simp
theorem tB_succ {xs : List ByteArray} {i : Nat} {u : ByteArray} (hu : xs[i]? = some u) : tB (xs.take (i + 1)) = tB (xs.take i) ++ (ub u.size ++ sB u) := by
  unfold tB; rw [List.take_add_one, hu, List.flatMap_append]; simp
theorem flat_le {α : Type} (f : α → List Int) (k : Nat) : ∀ (xs : List α), (∀ x ∈ xs, (f x).length ≤ k) → (xs.flatMap f).length ≤ k * xs.length
  | [], _ => by simp
  | x :: xs, h => by
    rw [List.flatMap_cons, List.length_append, List.length_cons, Nat.mul_succ]
    have h1 := h x (List.mem_cons_self ..)
    have h2 := flat_le f k xs (fun y hy => h y (List.mem_cons_of_mem _ hy))
    omega
/-- Numbers whose bytes are few. -/
def okU (xs : List Int) : Prop := ∀ x ∈ xs, 0 ≤ x ∧ x < 18446744073709551616
def okI (xs : List Int) : Prop := ∀ x ∈ xs, -9223372036854775808 ≤ x ∧ x ≤ 9223372036854775807
theorem uB_len {xs : List Int} (hf : ∀ x ∈ xs, 0 ≤ x ∧ x < 18446744073709551616) (i : Nat) : (uB (xs.take i)).length ≤ 10 * (xs.take i).length :=
  flat_le _ 10 _ fun x hx => ub_len10 (by have := hf x (List.mem_of_mem_take hx); omega)
theorem iB_len {xs : List Int} (hf : ∀ x ∈ xs, -9223372036854775808 ≤ x ∧ x ≤ 9223372036854775807) (i : Nat) : (iB (xs.take i)).length ≤ 10 * (xs.take i).length :=
  flat_le _ 10 _ fun x hx => ub_len10 (by have := turn_u64 (hf x (List.mem_of_mem_take hx)); omega)
theorem tB_len (xs : List ByteArray) (hf : ∀ x ∈ xs, x.size ≤ 1000) : (tB xs).length ≤ 1010 * xs.length :=
  flat_le _ 1010 _ fun x hx => by
    have h1 := hf x hx
    have h2 := ub_len10 (n := x.size) (by omega)
    rw [List.length_append, sB_len]; omega
theorem put_byte (m : Nat) : bits .or .u8 (IntKind.u8.wrap (m : Int)) 128 = 128 + (m : Int) % 128 := by
  rw [wrap_u8m, or_128 (by omega)]; omega
theorem and_zero (x : Int) : (if x < 128 then (0 : Int) else 128) = 0 ↔ x < 128 := by
  by_cases h : x < 128 <;> simp [h]
theorem tup3 {a a' b c : Value} (h : a = a') : Value.tuple #[a, b, c] = .tuple #[a', b, c] := by rw [h]

/-! ## the reader -/
def rdU (xs : List Int) (e : Int) : Int × List Int × Int := if e ≠ 0 then (0, xs, e) else if (pn 0 xs).2.2 ≠ 0 then (0, xs, (pn 0 xs).2.2) else pn 0 xs
theorem rdU_err {xs : List Int} {e : Int} (h : e ≠ 0) : rdU xs e = (0, xs, e) := if_pos h
theorem rdU_bad {xs : List Int} (h : (pn 0 xs).2.2 ≠ 0) : rdU xs 0 = (0, xs, (pn 0 xs).2.2) := by unfold rdU; rw [if_neg (by decide), if_pos h]
theorem rdU_ok {xs : List Int} (h : (pn 0 xs).2.2 = 0) : rdU xs 0 = pn 0 xs := by unfold rdU; rw [if_neg (by decide), if_neg (by omega)]
theorem rdU_u64 {xs : List Int} {e : Int} (hb : ∀ x ∈ xs, 0 ≤ x ∧ x < 256) : 0 ≤ (rdU xs e).1 ∧ (rdU xs e).1 < 18446744073709551616 := by
  have := pn_u64 hb
  unfold rdU
  split
  · simp
  · split
    · simp
    · exact this
theorem rdU_sub {xs : List Int} {e : Int} : (∀ y, y ∈ (rdU xs e).2.1 → y ∈ xs) ∧ (rdU xs e).2.1.length ≤ xs.length := by
  unfold rdU
  split
  · exact ⟨fun y h => h, Nat.le_refl _⟩
  · split
    · exact ⟨fun y h => h, Nat.le_refl _⟩
    · exact ⟨fun y h => pn_sub h, pn_len xs 0⟩
def rdC (xs : List Int) (e m : Int) : Int × List Int × Int := if max m 0 < (rdU xs e).1 then (0, xs, 17) else rdU xs e
theorem rdC_long {xs : List Int} {e m : Int} (h : max m 0 < (rdU xs e).1) : rdC xs e m = (0, xs, 17) := if_pos h
theorem rdC_ok {xs : List Int} {e m : Int} (h : ¬ max m 0 < (rdU xs e).1) : rdC xs e m = rdU xs e := if_neg h
theorem rdC_u64 {xs : List Int} {e m : Int} (hb : ∀ x ∈ xs, 0 ≤ x ∧ x < 256) : 0 ≤ (rdC xs e m).1 ∧ (rdC xs e m).1 ≤ max m 0 := by
  have := rdU_u64 (e := e) hb
  unfold rdC
  split
  · simp; omega
  · omega
theorem rdC_sub {xs : List Int} {e m : Int} : (∀ y, y ∈ (rdC xs e m).2.1 → y ∈ xs) ∧ (rdC xs e m).2.1.length ≤ xs.length := by
  unfold rdC
  split
  · exact ⟨fun y h => h, Nat.le_refl _⟩
  · exact rdU_sub
def rdT (xs : List Int) (e m : Int) : ByteArray × List Int × Int :=
  if (rdC xs e m).2.2 ≠ 0 then (ByteArray.empty, (rdC xs e m).2.1, (rdC xs e m).2.2) else if (rdC xs e m).1 > (rdC xs e m).2.1.length then (ByteArray.empty, xs, 15) else
    (bS ((rdC xs e m).2.1.take (rdC xs e m).1.toNat), (rdC xs e m).2.1.drop (rdC xs e m).1.toNat, 0)
theorem rdT_err {xs : List Int} {e m : Int} (h : (rdC xs e m).2.2 ≠ 0) : rdT xs e m = (ByteArray.empty, (rdC xs e m).2.1, (rdC xs e m).2.2) := if_pos h
theorem rdT_end {xs : List Int} {e m : Int} (h : (rdC xs e m).2.2 = 0) (h2 : (rdC xs e m).1 > (rdC xs e m).2.1.length) : rdT xs e m = (ByteArray.empty, xs, 15) := by unfold rdT; rw [if_neg (by omega), if_pos h2]
theorem rdT_ok {xs : List Int} {e m : Int} (h : (rdC xs e m).2.2 = 0) (h2 : ¬ (rdC xs e m).1 > (rdC xs e m).2.1.length) : rdT xs e m = (bS ((rdC xs e m).2.1.take (rdC xs e m).1.toNat), (rdC xs e m).2.1.drop (rdC xs e m).1.toNat, 0) := by unfold rdT; rw [if_neg (by omega), if_neg h2]
theorem rdT_sub {xs : List Int} {e m : Int} : (∀ y, y ∈ (rdT xs e m).2.1 → y ∈ xs) ∧ (rdT xs e m).2.1.length ≤ xs.length := by
  have h := @rdC_sub xs e m
  unfold rdT
  split
  · exact h
  · split
    · exact ⟨fun y h => h, Nat.le_refl _⟩
    · refine ⟨fun y hy => h.1 y (List.mem_of_mem_drop hy), ?_⟩
      show (List.drop _ _).length ≤ _
      rw [List.length_drop]; omega
def rdE (xs : List Int) (e : Int) : Int := if e = 0 ∧ 0 < xs.length then 10 else e
theorem rdE_cases (xs : List Int) (e : Int) : ((e = 0 ∧ 0 < xs.length) ∧ rdE xs e = 10) ∨ (¬ (e = 0 ∧ 0 < xs.length) ∧ rdE xs e = e) := by unfold rdE; split <;> simp_all
end Go.Proofs.Ytcbfmbcmokafpaa.B

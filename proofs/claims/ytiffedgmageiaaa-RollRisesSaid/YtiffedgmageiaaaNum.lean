/- Whole numbers of any length in limbs of 16 bits: what the document's rows of limbs stand for. -/
import Derived.Test.YtiffedgmageiaaaMore
namespace Go.Proofs.Ytiffedgmageiaaa.B
set_option linter.unusedVariables false
set_option linter.unusedSimpArgs false

/-- What limbs stand for, the lowest first. -/
def val : List Int → Int
  | [] => 0
  | d :: ds => d + 65536 * val ds
def dig (ds : List Int) : Prop := ∀ d ∈ ds, 0 ≤ d ∧ d < 65536
def pw (n : Nat) : Int := 65536 ^ n
theorem pw_zero : pw 0 = 1 := rfl
theorem pw_succ (n : Nat) : pw (n + 1) = 65536 * pw n := by unfold pw; rw [Int.pow_succ, Int.mul_comm]
theorem pw_pos (n : Nat) : 0 < pw n := Int.pow_pos (by decide)
theorem pw_add (m n : Nat) : pw (m + n) = pw m * pw n := Int.pow_add ..
theorem pw_le {m n : Nat} (h : m ≤ n) : pw m ≤ pw n := by
  obtain ⟨k, rfl⟩ := Nat.exists_eq_add_of_le h
  rw [pw_add]
  have h1 := pw_pos m; have h2 := pw_pos k
  have : pw m * 1 ≤ pw m * pw k := Int.mul_le_mul_of_nonneg_left (by omega) (by omega)
  omega
theorem dig_nil : dig [] := fun _ h => by cases h
theorem dig_cons {d : Int} {ds : List Int} : dig (d :: ds) ↔ (0 ≤ d ∧ d < 65536) ∧ dig ds := by
  unfold dig; simp
theorem dig_append {a b : List Int} : dig (a ++ b) ↔ dig a ∧ dig b := by
  unfold dig
  constructor
  · exact fun h => ⟨fun d hd => h d (List.mem_append_left _ hd), fun d hd => h d (List.mem_append_right _ hd)⟩
  · rintro ⟨h1, h2⟩ d hd
    rcases List.mem_append.1 hd with h | h
    · exact h1 d h
    · exact h2 d h
theorem dig_take {a : List Int} (h : dig a) (n : Nat) : dig (a.take n) := fun d hd => h d (List.mem_of_mem_take hd)
theorem dig_drop {a : List Int} (h : dig a) (n : Nat) : dig (a.drop n) := fun d hd => h d (List.mem_of_mem_drop hd)
theorem val_append (a b : List Int) : val (a ++ b) = val a + pw a.length * val b := by
  induction a with
  | nil => simp [val, pw_zero]
  | cons d a ih =>
    rw [List.cons_append, val, ih, val, List.length_cons, pw_succ, Int.mul_add, Int.mul_assoc]; omega
theorem val_nonneg {a : List Int} (h : dig a) : 0 ≤ val a := by
  induction a with
  | nil => simp [val]
  | cons d a ih => rw [dig_cons] at h; have := ih h.2; rw [val]; omega
theorem val_lt {a : List Int} (h : dig a) : val a < pw a.length := by
  induction a with
  | nil => simp [val, pw_zero]
  | cons d a ih => rw [dig_cons] at h; have := ih h.2; rw [val, List.length_cons, pw_succ]; omega
theorem val_snoc (a : List Int) (d : Int) : val (a ++ [d]) = val a + pw a.length * d := by rw [val_append]; simp [val]
theorem val_split (a : List Int) (n : Nat) : val a = val (a.take n) + pw (a.take n).length * val (a.drop n) := by
  rw [← val_append, List.take_append_drop]
/-- The limb of a place, 0 above the highest. -/
def lb (a : List Int) (i : Nat) : Int := a.getD i 0
theorem lb_dig {a : List Int} (h : dig a) (i : Nat) : 0 ≤ lb a i ∧ lb a i < 65536 := by
  unfold lb
  rw [List.getD_eq_getElem?_getD]
  cases hx : a[i]? with
  | none => simp
  | some x => exact h x (List.mem_of_getElem? hx)
theorem lb_ge {a : List Int} {i : Nat} (h : a.length ≤ i) : lb a i = 0 := by
  unfold lb; rw [List.getD_eq_getElem?_getD, List.getElem?_eq_none h]; rfl
theorem lb_some {a : List Int} {i : Nat} {x : Int} (h : a[i]? = some x) : lb a i = x := by
  unfold lb; rw [List.getD_eq_getElem?_getD, h]; rfl
/-- The value of the lowest i limbs, noughts above the highest. -/
def vt (a : List Int) (i : Nat) : Int := val (a.take i)
theorem vt_zero (a : List Int) : vt a 0 = 0 := rfl
theorem vt_succ (a : List Int) (i : Nat) : vt a (i + 1) = vt a i + pw i * lb a i := by
  unfold vt
  by_cases h : i < a.length
  · rw [List.take_add_one, List.getElem?_eq_getElem h]
    show val (a.take i ++ [a[i]]) = _
    rw [val_snoc, List.length_take, Nat.min_eq_left (by omega), lb_some (List.getElem?_eq_getElem h)]
  · rw [List.take_of_length_le (by omega), List.take_of_length_le (by omega), lb_ge (by omega)]; omega
theorem vt_all {a : List Int} {i : Nat} (h : a.length ≤ i) : vt a i = val a := by unfold vt; rw [List.take_of_length_le h]
theorem vt_nonneg {a : List Int} (h : dig a) (i : Nat) : 0 ≤ vt a i := val_nonneg (dig_take h i)
theorem vt_lt {a : List Int} (h : dig a) (i : Nat) : vt a i < pw i := by
  have := val_lt (dig_take h i)
  have h2 := pw_le (show (a.take i).length ≤ i by rw [List.length_take]; omega)
  unfold vt; omega
/-- The value of what lies from the limb i on. -/
def vd (a : List Int) (i : Nat) : Int := val (a.drop i)
theorem vd_zero (a : List Int) : vd a 0 = val a := rfl
theorem vd_step (a : List Int) (i : Nat) : vd a i = lb a i + 65536 * vd a (i + 1) := by
  unfold vd
  by_cases h : i < a.length
  · rw [List.drop_eq_getElem_cons h, val, lb_some (List.getElem?_eq_getElem h)]
  · rw [List.drop_eq_nil_of_le (by omega), List.drop_eq_nil_of_le (by omega), lb_ge (by omega)]; simp [val]
theorem vd_ge {a : List Int} {i : Nat} (h : a.length ≤ i) : vd a i = 0 := by unfold vd; rw [List.drop_eq_nil_of_le h]; rfl
theorem vt_vd (a : List Int) (i : Nat) : val a = vt a i + pw i * vd a i := by
  by_cases h : i ≤ a.length
  · have := val_split a i
    rw [List.length_take, Nat.min_eq_left h] at this
    exact this
  · rw [vt_all (by omega), vd_ge (by omega)]; omega
theorem vd_nonneg {a : List Int} (h : dig a) (i : Nat) : 0 ≤ vd a i := val_nonneg (dig_drop h i)

/-- No nought at the top. -/
def canon (a : List Int) : Prop := a = [] ∨ lb a (a.length - 1) ≠ 0
theorem canon_nil : canon [] := .inl rfl
theorem canon_low {a : List Int} (h : dig a) (hc : canon a) (h0 : a ≠ []) : pw (a.length - 1) ≤ val a := by
  rcases hc with rfl | hc
  · exact absurd rfl h0
  · have hl : 0 < a.length := List.length_pos_iff.2 h0
    have h1 := vt_vd a (a.length - 1)
    have h2 := vd_step a (a.length - 1)
    rw [show a.length - 1 + 1 = a.length by omega, vd_ge (Nat.le_refl _)] at h2
    have h3 := lb_dig h (a.length - 1)
    have h4 := vt_nonneg h (a.length - 1)
    have h5 : 1 ≤ vd a (a.length - 1) := by omega
    have h6 : pw (a.length - 1) * 1 ≤ pw (a.length - 1) * vd a (a.length - 1) := Int.mul_le_mul_of_nonneg_left h5 (Int.le_of_lt (pw_pos _))
    omega
theorem canon_zero {a : List Int} (h : dig a) (hc : canon a) (hz : val a = 0) : a = [] := by
  by_cases h0 : a = []
  · exact h0
  · have := canon_low h hc h0; have := pw_pos (a.length - 1); omega
theorem canon_len {a : List Int} (h : dig a) (hc : canon a) {k : Nat} (hk : val a < pw k) : a.length ≤ k := by
  by_cases h0 : a = []
  · rw [h0]; simp
  · have h1 := canon_low h hc h0
    rcases Nat.lt_or_ge k a.length with hlt | hge
    · have := pw_le (show k ≤ a.length - 1 by omega); omega
    · exact hge

/-! ### one step of each loop -/
theorem plus_step {out : List Int} {c p x y A B : Int} (h : val out + c * p = A + B) (hl : p = pw out.length) :
    val (out ++ [(c + (x + y)) % 65536]) + (c + (x + y)) / 65536 * (65536 * p) = (A + p * x) + (B + p * y) := by
  rw [val_snoc, ← hl]
  have e : (c + (x + y)) % 65536 = (c + (x + y)) - 65536 * ((c + (x + y)) / 65536) := by omega
  rw [e]
  generalize (c + (x + y)) / 65536 = q
  rw [Int.mul_sub, Int.mul_add, Int.mul_add]
  have h1 : p * (65536 * q) = q * (65536 * p) := by rw [Int.mul_left_comm, Int.mul_comm p q, Int.mul_left_comm]
  rw [h1, Int.mul_comm p c]
  omega
theorem minus_step1 {out : List Int} {c p x y A B : Int} (h : val out - c * p = A - B) (hl : p = pw out.length) :
    val (out ++ [x - y - c + 65536]) - 1 * (65536 * p) = (A + p * x) - (B + p * y) := by
  rw [val_snoc, ← hl, Int.mul_add, Int.mul_sub, Int.mul_sub, Int.mul_comm p c, Int.mul_comm p 65536]
  omega
theorem minus_step0 {out : List Int} {c p x y A B : Int} (h : val out - c * p = A - B) (hl : p = pw out.length) :
    val (out ++ [x - y - c]) - 0 * (65536 * p) = (A + p * x) - (B + p * y) := by
  rw [val_snoc, ← hl, Int.mul_sub, Int.mul_sub, Int.mul_comm p c]
  omega
theorem above_hi {a b : List Int} (ha : dig a) (hb : dig b) (i : Nat) (h : vd a (i + 1) = vd b (i + 1)) (hl : lb b i < lb a i) : val b < val a := by
  have h1 := vd_step a i; have h2 := vd_step b i
  have h3 : vd b i + 1 ≤ vd a i := by omega
  have h4 := vt_vd a i; have h5 := vt_vd b i
  have h6 := vt_nonneg ha i; have h7 := vt_lt hb i
  have h8 : pw i * (vd b i + 1) ≤ pw i * vd a i := Int.mul_le_mul_of_nonneg_left h3 (Int.le_of_lt (pw_pos i))
  rw [Int.mul_add] at h8
  omega
theorem above_eq {a b : List Int} (i : Nat) (h : vd a (i + 1) = vd b (i + 1)) (hl : lb b i = lb a i) : vd a i = vd b i := by
  rw [vd_step a i, vd_step b i, h, hl]
/-- So great are the numbers of which the document's answers are reckoned here. -/
def big : Int := pw 64
theorem lt_big {n : Int} (h : n < 115792089237316195423570985008687907853269984665640564039457584007913129639936) : n < big := by
  have : pw 16 = 115792089237316195423570985008687907853269984665640564039457584007913129639936 := by decide
  have h2 := pw_le (show 16 ≤ 64 by decide)
  unfold big; omega

/-- A number of the document's: its sign and limbs never change. -/
def NumR (R : Kn) (v : Value) (z : Int) : Prop :=
  ∃ neg s ds, v = .agg #[.bool neg, s] ∧ Ro R (encI .i64) 1 s ds ∧ dig ds ∧ canon ds ∧ (neg = true → ds ≠ []) ∧ z = (if neg = true then - val ds else val ds)
theorem NumR.mono {R S : Kn} {v : Value} {z : Int} (h : NumR R v z) (hs : R.le S) : NumR S v z :=
  let ⟨neg, s, ds, h1, h2, h3⟩ := h; ⟨neg, s, ds, h1, h2.mono hs, h3⟩
theorem num_abs {neg : Bool} {ds : List Int} {z : Int} (hd : dig ds) (h : z = (if neg = true then - val ds else val ds)) : (z.natAbs : Int) = val ds := by
  have := val_nonneg hd
  cases neg <;> simp at h <;> omega
theorem num_len {neg : Bool} {ds : List Int} {z : Int} (hd : dig ds) (hc : canon ds) (h : z = (if neg = true then - val ds else val ds)) (hb : (z.natAbs : Int) < big) : ds.length ≤ 64 := by
  rw [num_abs hd h] at hb
  exact canon_len hd hc hb
end Go.Proofs.Ytiffedgmageiaaa.B

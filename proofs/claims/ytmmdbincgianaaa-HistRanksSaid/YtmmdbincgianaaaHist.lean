/- Histograms: buckets, counts, sums of rows of counts, ranks. -/
import Derived.Test.YtmmdbincgianaaaArrQ
import Derived.Test.YtmmdbincgianaaaSafe
import Derived.Test.YtmmdbincgianaaaWide
namespace Go.Proofs.Ytmmdbincgianaaa.B
set_option linter.unusedVariables false
set_option linter.unusedSimpArgs false
open Go.RowKit

/-! ## arrays by a function -/
def tab (f : Nat → Int) : List Int := (List.range 65).map f
theorem tab_len {f : Nat → Int} : (tab f).length = 65 := by unfold tab; rw [List.length_map, List.length_range]
theorem tab_get? {f : Nat → Int} {k : Nat} (h : k < 65) : (tab f)[k]? = some (f k) := by
  unfold tab; rw [List.getElem?_map, List.getElem?_range h]; rfl
theorem tab_get {f : Nat → Int} {k : Nat} (h : k < 65) : (tab f).getD k 0 = f k := by
  rw [List.getD_eq_getElem?_getD, tab_get? h]; rfl
theorem tab_ext {f g : Nat → Int} (h : ∀ k < 65, f k = g k) : tab f = tab g := by
  unfold tab; exact List.map_congr_left (fun k hk => h k (List.mem_range.1 hk))
theorem tab_of {xs : List Int} (h : xs.length = 65) : xs = tab (fun k => xs.getD k 0) := by
  apply List.ext_getElem?
  intro k
  by_cases hk : k < 65
  · rw [tab_get? hk, getD_some (by omega)]
  · rw [List.getElem?_eq_none (by omega), List.getElem?_eq_none (by rw [tab_len]; omega)]
theorem tab_set {f : Nat → Int} {k : Nat} {u : Int} : (tab f).set k u = tab (fun j => if j = k then u else f j) := by
  apply List.ext_getElem?
  intro j
  by_cases hj : j < 65
  · rw [tab_get? hj, List.getElem?_set, tab_len]
    by_cases hjk : j = k
    · subst hjk; rw [if_pos rfl, if_pos hj, if_pos rfl]
    · rw [if_neg (by omega), if_neg hjk, tab_get? hj]
  · rw [List.getElem?_eq_none (by rw [List.length_set, tab_len]; omega), List.getElem?_eq_none (by rw [tab_len]; omega)]
theorem zA_tab : zA = tab (fun _ => 0) := by decide
theorem tab_inj {f g : Nat → Int} (h : tab f = tab g) : ∀ k < 65, f k = g k := fun k hk => by
  rw [← tab_get (f := f) hk, h, tab_get hk]
theorem tab_all {f : Nat → Int} {p : Int → Prop} : (∀ x ∈ tab f, p x) ↔ ∀ k < 65, p (f k) := by
  unfold tab
  constructor
  · intro h k hk; exact h _ (List.mem_map.2 ⟨k, List.mem_range.2 hk, rfl⟩)
  · intro h x hx; obtain ⟨k, hk, rfl⟩ := List.mem_map.1 hx; exact h k (List.mem_range.1 hk)
theorem getD_mem {xs : List Int} {k : Nat} (h : k < xs.length) : xs.getD k 0 ∈ xs := List.mem_of_getElem? (getD_some h)
theorem all_getD {xs : List Int} {p : Int → Prop} (h : xs.length = 65) : (∀ x ∈ xs, p x) ↔ ∀ k < 65, p (xs.getD k 0) := by
  conv => lhs; rw [tab_of h]
  exact tab_all

/-! ## buckets -/
def bkt (v : Int) : Nat := if v < 0 then 0 else 1 + bitLen v.toNat
theorem bkt_neg {v : Int} (h : v < 0) : bkt v = 0 := if_pos h
theorem bkt_pos {v : Int} (h : ¬ v < 0) : bkt v = 1 + bitLen v.toNat := if_neg h
theorem bkt_lt {v : Int} (h : fits v) : bkt v < 65 := by
  unfold fits at h
  unfold bkt
  split
  · omega
  · have h1 := bitLen_spec v.toNat
    by_cases h0 : v.toNat = 0
    · rw [h0]; decide
    · have h2 := h1.2 h0
      have : bitLen v.toNat - 1 < 63 := by
        refine (Nat.pow_lt_pow_iff_right (a := 2) (by decide)).1 (Nat.lt_of_le_of_lt h2 ?_)
        have : (2 : Nat) ^ 63 = 9223372036854775808 := by decide
        omega
      omega
/-- Halving. -/
theorem bitLen_half {n : Nat} (h : 0 < n) : bitLen n = 1 + bitLen (n / 2) := by
  unfold bitLen
  rw [if_neg (by omega)]
  by_cases h1 : n / 2 = 0
  · rw [if_pos h1]
    obtain rfl : n = 1 := by omega
    decide
  · rw [if_neg h1, Nat.log2_def, if_pos (by omega)]
    omega
/-- A bucket's bounds. -/
theorem bkt_iff {v : Int} {k : Nat} : bkt v = k + 2 ↔ (2 : Int) ^ k ≤ v ∧ v ≤ 2 ^ k - 1 + 2 ^ k := by
  have hp : ((2 : Nat) ^ k : Nat) = ((2 : Int) ^ k) := by norm_cast
  have h1 := bitLen_spec v.toNat
  have hpp : (2 : Nat) ^ (k + 1) = 2 ^ k * 2 := Nat.pow_succ ..
  have hpos : 0 < (2 : Nat) ^ k := Nat.two_pow_pos k
  generalize hq : (2 : Nat) ^ k = q at *
  rw [← hp]
  unfold bkt
  constructor
  · intro h
    split at h
    · omega
    · have hb : bitLen v.toNat = k + 1 := by omega
      rw [hb] at h1
      have h0 : v.toNat ≠ 0 := by
        intro h0
        rw [h0] at hb
        have : bitLen 0 = 0 := rfl
        omega
      have h2 := h1.2 h0
      rw [Nat.add_sub_cancel, hq] at h2
      rw [hpp] at h1
      omega
  · rintro ⟨h2, h3⟩
    rw [if_neg (by omega)]
    have h0 : v.toNat ≠ 0 := by omega
    have h4 := h1.2 h0
    have h5 : bitLen v.toNat - 1 < k + 1 := by
      refine (Nat.pow_lt_pow_iff_right (a := 2) (by decide)).1 (Nat.lt_of_le_of_lt h4 ?_)
      rw [hpp]; omega
    have h6 : k < bitLen v.toNat := by
      refine (Nat.pow_lt_pow_iff_right (a := 2) (by decide)).1 (Nat.lt_of_le_of_lt ?_ h1.1)
      rw [hq]; omega
    omega
theorem bkt_one {v : Int} : bkt v = 1 ↔ v = 0 := by
  have h1 := bitLen_spec v.toNat
  unfold bkt
  constructor
  · intro h
    split at h
    · omega
    · have hb : bitLen v.toNat = 0 := by omega
      rw [hb] at h1
      omega
  · rintro rfl; decide
theorem bkt_zero {v : Int} : bkt v = 0 ↔ v < 0 := by
  unfold bkt
  constructor
  · intro h
    split at h
    · assumption
    · omega
  · intro h; rw [if_pos h]

/-! ## counts -/
def cnt (k : Nat) (xs : List Int) : Int := (xs.countP (fun v => bkt v == k) : Nat)
def ofL (xs : List Int) : List Int := tab (fun k => cnt k xs)
theorem ofL_len {xs : List Int} : (ofL xs).length = 65 := tab_len
theorem ofL_nil : ofL [] = zA := by decide
theorem cnt_nonneg {k : Nat} {xs : List Int} : 0 ≤ cnt k xs := by unfold cnt; omega
theorem cnt_le {k : Nat} {xs : List Int} : cnt k xs ≤ xs.length := by
  unfold cnt
  have := List.countP_le_length (p := fun v => bkt v == k) (l := xs)
  omega
theorem cnt_append {k : Nat} {xs ys : List Int} : cnt k (xs ++ ys) = cnt k xs + cnt k ys := by
  unfold cnt; rw [List.countP_append]; omega
theorem cnt_one {k : Nat} {v : Int} : cnt k [v] = if k = bkt v then 1 else 0 := by
  unfold cnt
  rw [List.countP_singleton]
  by_cases h : bkt v = k
  · rw [if_pos (by simpa using h), if_pos h.symm]; rfl
  · rw [if_neg (by simpa using h), if_neg (fun e => h e.symm)]; rfl
theorem ofL_step {xs : List Int} {v : Int} (h : bkt v < 65) : (ofL xs).set (bkt v) ((ofL xs).getD (bkt v) 0 + 1) = ofL (xs ++ [v]) := by
  unfold ofL
  rw [tab_get h, tab_set]
  refine tab_ext fun j _ => ?_
  rw [cnt_append, cnt_one]
  by_cases hj : j = bkt v
  · subst hj; rw [if_pos rfl, if_pos rfl]
  · rw [if_neg hj, if_neg hj, Int.add_zero]
theorem ofL_fits {xs : List Int} (h : xs.length ≤ 140737488355328) : ∀ x ∈ ofL xs, fits x := by
  refine tab_all.2 fun k _ => ?_
  have h1 := cnt_nonneg (k := k) (xs := xs)
  have h2 := cnt_le (k := k) (xs := xs)
  unfold fits; omega

/-! ## sums of rows -/
def rgt (h : List Int) : Prop := ∀ x ∈ h, 0 ≤ x
instance (h : List Int) : Decidable (rgt h) := inferInstanceAs (Decidable (∀ x ∈ h, 0 ≤ x))
def col (rows : List (List Int)) (k : Nat) : Int := (rows.map (fun h => h.getD k 0)).sum
theorem col_nil {k : Nat} : col [] k = 0 := rfl
theorem col_snoc {rows : List (List Int)} {h : List Int} {k : Nat} : col (rows ++ [h]) k = col rows k + h.getD k 0 := by
  unfold col; rw [List.map_append, List.sum_append]; simp
def sumL (rows : List (List Int)) : List Int := tab (col rows)
def mrg (rows : List (List Int)) : List Int × Int :=
  if ∀ h ∈ rows, rgt h then (if ∀ k ∈ List.range 65, col rows k ≤ 9223372036854775807 then (sumL rows, 0) else (zA, 12)) else (zA, 10)
theorem mrg_len {rows : List (List Int)} : (mrg rows).1.length = 65 := by
  unfold mrg; split
  · split
    · exact tab_len
    · rfl
  · rfl
theorem mrg_form {rows : List (List Int)} {h : List Int} (h1 : h ∈ rows) (h2 : ¬ rgt h) : mrg rows = (zA, 10) := by
  unfold mrg; rw [if_neg (fun q => h2 (q h h1))]
theorem mrg_out {rows : List (List Int)} {k : Nat} (h1 : ∀ h ∈ rows, rgt h) (hk : k < 65) (h2 : 9223372036854775807 < col rows k) : mrg rows = (zA, 12) := by
  unfold mrg; rw [if_pos h1, if_neg (fun q => by have := q k (List.mem_range.2 hk); omega)]
theorem mrg_in {rows : List (List Int)} (h1 : ∀ h ∈ rows, rgt h) (h2 : ∀ k < 65, col rows k ≤ 9223372036854775807) : mrg rows = (sumL rows, 0) := by
  unfold mrg; rw [if_pos h1, if_pos (fun k hk => h2 k (List.mem_range.1 hk))]
theorem rgt_getD {h : List Int} (hr : rgt h) (k : Nat) : 0 ≤ h.getD k 0 := by
  by_cases hk : k < h.length
  · exact hr _ (getD_mem hk)
  · rw [List.getD_eq_getElem?_getD, List.getElem?_eq_none (by omega)]; decide
theorem col_nonneg {rows : List (List Int)} {k : Nat} (h : ∀ h ∈ rows, rgt h) : 0 ≤ col rows k := by
  unfold col
  induction rows with
  | nil => exact Int.le_refl _
  | cons x rows ih =>
    rw [List.map_cons, List.sum_cons]
    have := rgt_getD (h x (List.mem_cons_self ..)) k
    have := ih (fun y hy => h y (List.mem_cons_of_mem _ hy))
    omega
theorem col_take {rows : List (List Int)} {k i : Nat} (h : ∀ h ∈ rows, rgt h) : col (rows.take i) k ≤ col rows k := by
  conv => rhs; rw [← List.take_append_drop i rows]
  unfold col
  rw [List.map_append, List.sum_append]
  have := col_nonneg (rows := rows.drop i) (k := k) (fun x hx => h x (List.mem_of_mem_drop hx))
  unfold col at this
  omega
theorem take_snoc {α : Type} {rows : List α} {i : Nat} {u : α} (h : rows[i]? = some u) : rows.take (i + 1) = rows.take i ++ [u] := by
  rw [List.take_add_one, h]; rfl
/-- The sums, when the first k buckets of the row i are in them. -/
def mixL (rows : List (List Int)) (i k : Nat) : List Int := tab (fun j => if j < k then col (rows.take (i + 1)) j else col (rows.take i) j)
theorem mixL_zero {rows : List (List Int)} {i : Nat} : mixL rows i 0 = sumL (rows.take i) := tab_ext fun j _ => if_neg (by omega)
theorem mixL_end {rows : List (List Int)} {i : Nat} : mixL rows i 65 = sumL (rows.take (i + 1)) := tab_ext fun j hj => if_pos hj
theorem mixL_len {rows : List (List Int)} {i k : Nat} : (mixL rows i k).length = 65 := tab_len
theorem mixL_get {rows : List (List Int)} {i k : Nat} (hk : k < 65) : (mixL rows i k).getD k 0 = col (rows.take i) k := by
  unfold mixL; rw [tab_get hk, if_neg (by omega)]
theorem mixL_step {rows : List (List Int)} {i k : Nat} {u : List Int} (hu : rows[i]? = some u) : (mixL rows i k).set k (col (rows.take i) k + u.getD k 0) = mixL rows i (k + 1) := by
  unfold mixL
  rw [tab_set]
  refine tab_ext fun j _ => ?_
  by_cases hj : j = k
  · subst hj; rw [if_pos rfl, if_pos (by omega), take_snoc hu, col_snoc]
  · rw [if_neg hj]
    by_cases h2 : j < k
    · rw [if_pos h2, if_pos (by omega)]
    · rw [if_neg h2, if_neg (by omega)]
/-- The sums' first k buckets, the rest noughts. -/
def halfL (rows : List (List Int)) (k : Nat) : List Int := tab (fun j => if j < k then col rows j else 0)
theorem halfL_zero {rows : List (List Int)} : halfL rows 0 = zA := by rw [zA_tab]; exact tab_ext fun j _ => if_neg (by omega)
theorem halfL_end {rows : List (List Int)} : halfL rows 65 = sumL rows := tab_ext fun j hj => if_pos hj
theorem halfL_len {rows : List (List Int)} {k : Nat} : (halfL rows k).length = 65 := tab_len
theorem halfL_step {rows : List (List Int)} {k : Nat} : (halfL rows k).set k (col rows k) = halfL rows (k + 1) := by
  unfold halfL
  rw [tab_set]
  refine tab_ext fun j _ => ?_
  by_cases hj : j = k
  · subst hj; rw [if_pos rfl, if_pos (by omega)]
  · rw [if_neg hj]
    by_cases h2 : j < k
    · rw [if_pos h2, if_pos (by omega)]
    · rw [if_neg h2, if_neg (by omega)]
/-- Two histograms of lists, merged. -/
theorem ofL_get {xs : List Int} {k : Nat} (h : k < 65) : (ofL xs).getD k 0 = cnt k xs := tab_get h
theorem ofL_rgt {xs : List Int} : rgt (ofL xs) := tab_all.2 fun k _ => cnt_nonneg
theorem mrg_two {xs ys : List Int} (h : xs.length + ys.length ≤ 140737488355328) : mrg [ofL xs, ofL ys] = (ofL (xs ++ ys), 0) := by
  have hc : ∀ k < 65, col [ofL xs, ofL ys] k = cnt k (xs ++ ys) := fun k hk => by
    unfold col
    simp only [List.map_cons, List.map_nil, List.sum_cons, List.sum_nil]
    rw [ofL_get hk, ofL_get hk, cnt_append, Int.add_zero]
  rw [mrg_in]
  · exact congrArg (·, (0 : Int)) (tab_ext hc)
  · intro h hh
    simp only [List.mem_cons, List.not_mem_nil, or_false] at hh
    rcases hh with rfl | rfl <;> exact ofL_rgt
  · intro k hk
    rw [hc k hk]
    have := cnt_le (k := k) (xs := xs ++ ys)
    rw [List.length_append] at this
    omega

/-! ## ranks -/
def psum (h : List Int) (b : Nat) : Int := (h.take b).sum
theorem psum_succ {h : List Int} {b : Nat} (hb : b < h.length) : psum h (b + 1) = psum h b + h.getD b 0 := by
  unfold psum; rw [take_snoc (getD_some hb), List.sum_append]; simp
theorem psum_zero {h : List Int} : psum h 0 = 0 := rfl
def rkP (h : List Int) (k x : Int) : Prop :=
  ((¬ rgt h ∨ k < 0) ∧ x = -1) ∨ (rgt h ∧ 0 ≤ k ∧ (∀ b < 65, psum h (b + 1) ≤ k) ∧ x = -1) ∨ (∃ b : Nat, rgt h ∧ 0 ≤ k ∧ b < 65 ∧ (∀ a < b, psum h (a + 1) ≤ k) ∧ k < psum h (b + 1) ∧ x = b)
theorem rkP.same {h : List Int} {k x y : Int} (h1 : rkP h k x) (h2 : rkP h k y) : x = y := by
  rcases h1 with ⟨a, rfl⟩ | ⟨a1, a2, a3, rfl⟩ | ⟨b, a1, a2, a3, a4, a5, rfl⟩ <;> rcases h2 with ⟨c, rfl⟩ | ⟨c1, c2, c3, rfl⟩ | ⟨d, c1, c2, c3, c4, c5, rfl⟩
  · rfl
  · rfl
  · rcases a with a | a
    · exact absurd c1 a
    · omega
  · rfl
  · rfl
  · have := a3 d c3; omega
  · rcases c with c | c
    · exact absurd a1 c
    · omega
  · have := c3 b a3; omega
  · rcases Nat.lt_trichotomy b d with q | q | q
    · have := c4 b q; omega
    · rw [q]
    · have := a4 d q; omega
theorem rkP.big {h : List Int} {k x : Int} (h1 : rkP h k x) : -1 ≤ x ∧ x < 65 := by
  rcases h1 with ⟨a, rfl⟩ | ⟨a1, a2, a3, rfl⟩ | ⟨b, a1, a2, a3, a4, a5, rfl⟩ <;> omega
theorem all_succ {p : Nat → Prop} {n : Nat} (h : ∀ a < n, p a) (hn : p n) : ∀ a < n + 1, p a := fun a ha => by
  rcases Nat.lt_or_ge a n with q | q
  · exact h a q
  · obtain rfl : a = n := by omega
    exact hn

/-! ## the buckets that have counts -/
def fullTo (xs : List Int) (i : Nat) : List (Nat × Int) := ((List.range i).map (fun k => (k, xs.getD k 0))).filter (fun p => p.2 != 0)
theorem fullTo_succ {xs : List Int} {i : Nat} : fullTo xs (i + 1) = fullTo xs i ++ (if xs.getD i 0 = 0 then [] else [(i, xs.getD i 0)]) := by
  unfold fullTo
  rw [List.range_succ, List.map_append, List.filter_append]
  congr 1
  simp only [List.map_cons, List.map_nil, List.filter_cons, List.filter_nil]
  by_cases h : xs.getD i 0 = 0
  · rw [if_pos h, if_neg (by rw [h]; decide)]
  · rw [if_neg h, if_pos (by simpa using h)]
def frm (ps : List (Nat × Int)) : Nat := match ps.getLast? with | none => 0 | some p => p.1 + 1
theorem frm_snoc {ps : List (Nat × Int)} {p : Nat × Int} : frm (ps ++ [p]) = p.1 + 1 := by unfold frm; rw [List.getLast?_append]; simp
theorem fullTo_frm {xs : List Int} : ∀ (i : Nat), frm (fullTo xs i) ≤ i ∧ ∀ j, frm (fullTo xs i) ≤ j → j < i → xs.getD j 0 = 0
  | 0 => ⟨Nat.le_refl _, fun j _ h => absurd h (by omega)⟩
  | i + 1 => by
    obtain ⟨h1, h2⟩ := fullTo_frm (xs := xs) i
    rw [fullTo_succ]
    by_cases h : xs.getD i 0 = 0
    · rw [if_pos h, List.append_nil]
      refine ⟨by omega, fun j hj hji => ?_⟩
      by_cases q : j = i
      · subst q; exact h
      · exact h2 j hj (by omega)
    · rw [if_neg h, frm_snoc]
      exact ⟨Nat.le_refl _, fun j hj hji => by simp only at hj; omega⟩
/-- What stands at a place of it. -/
theorem fullTo_at {xs : List Int} : ∀ (n : Nat) (pre suf : List (Nat × Int)) (x : Nat × Int), pre ++ x :: suf = fullTo xs n →
    pre = fullTo xs x.1 ∧ x.1 < n ∧ x.2 = xs.getD x.1 0 ∧ x.2 ≠ 0
  | 0, pre, suf, x, h => by
    have : (pre ++ x :: suf).length = 0 := by rw [h]; rfl
    simp at this
  | n + 1, pre, suf, x, h => by
    rw [fullTo_succ] at h
    by_cases h0 : xs.getD n 0 = 0
    · rw [if_pos h0, List.append_nil] at h
      obtain ⟨a, b, c⟩ := fullTo_at n pre suf x h
      exact ⟨a, by omega, c⟩
    · rw [if_neg h0] at h
      rcases List.eq_nil_or_concat suf with rfl | ⟨suf', y, rfl⟩
      · have := List.append_inj' (s₁ := pre) (t₁ := [x]) (s₂ := fullTo xs n) (t₂ := [(n, xs.getD n 0)]) h rfl
        obtain ⟨a, b⟩ := this
        injection b with b _
        subst b
        exact ⟨a, Nat.lt_succ_self _, rfl, h0⟩
      · have h' : (pre ++ x :: suf') ++ [y] = fullTo xs n ++ [(n, xs.getD n 0)] := by
          rw [← h]; simp
        obtain ⟨a, b⟩ := List.append_inj' h' rfl
        obtain ⟨a1, b1, c1⟩ := fullTo_at n pre suf' x a
        exact ⟨a1, by omega, c1⟩
def fullL (xs : List Int) : List (Nat × Int) := fullTo xs 65
def pairE (p : Nat × Int) : Array Value := #[.int .i64 (p.1 : Int), .int .i64 p.2]
theorem full_split {xs : List Int} {i : Nat} (hi : i < 65) (h0 : xs.getD i 0 ≠ 0) : ∃ suf, fullTo xs i ++ (i, xs.getD i 0) :: suf = fullL xs := by
  have : ∀ m, ∃ suf, fullTo xs (i + 1 + m) = fullTo xs (i + 1) ++ suf := by
    intro m
    induction m with
    | zero => exact ⟨[], by simp⟩
    | succ m ih =>
      obtain ⟨suf, h⟩ := ih
      exact ⟨suf ++ _, by rw [← Nat.add_assoc, fullTo_succ, h, List.append_assoc]⟩
  obtain ⟨suf, h⟩ := this (65 - (i + 1))
  refine ⟨suf, ?_⟩
  unfold fullL
  rw [show 65 = i + 1 + (65 - (i + 1)) by omega, h, fullTo_succ, if_neg h0, List.append_assoc]
  rfl
end Go.Proofs.Ytmmdbincgianaaa.B

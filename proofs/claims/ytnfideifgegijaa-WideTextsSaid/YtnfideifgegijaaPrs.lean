/- Texts that are read as numbers of two words. -/
import Derived.Test.YtnfideifgegijaaDec
namespace Go.Proofs.Ytnfideifgegijaa.B
set_option linter.unusedVariables false
set_option linter.unusedSimpArgs false

theorem pre_iff {s : ByteArray} (h : 1 ≤ s.size) : s.extract 0 1 = ⟨#[45]⟩ ↔ (sB s).head? = some 45 := by
  have e : sB (⟨#[45]⟩ : ByteArray) = [45] := rfl
  have h1 : s.extract 0 1 = ⟨#[45]⟩ ↔ (sB s).take 1 = [45] := by
    constructor
    · intro h; have := congrArg sB h; rw [sB_extract, e] at this; simpa using this
    · intro h; apply sB_inj; rw [sB_extract, e]; simpa using h
  rw [h1]
  have hl := sB_len s
  match hs : sB s, hl with
  | [], hl => simp at hl; omega
  | x :: xs, _ => simp
theorem head_nil {s : ByteArray} (h : ¬ 1 ≤ s.size) : ¬ (sB s).head? = some 45 := by
  have hl := sB_len s
  have : sB s = [] := List.eq_nil_of_length_eq_zero (by omega)
  rw [this]; simp
theorem head_cons {s : ByteArray} (h : (sB s).head? = some 45) : sB s = 45 :: sB (s.extract 1 s.size) := by
  have hl := sB_len s
  rw [sB_extract, ← hl, List.take_length]
  match hs : sB s, h with
  | x :: xs, h => simp at h; subst h; rfl
/-- What digits stand for. -/
def pv (ds : List Int) : Int := ds.foldl (fun a d => a * 10 + (d - 48)) 0
theorem pv_snoc (ds : List Int) (d : Int) : pv (ds ++ [d]) = pv ds * 10 + (d - 48) := by unfold pv; rw [List.foldl_append]; rfl
def digits (ds : List Int) : Prop := ∀ d ∈ ds, 48 ≤ d ∧ d ≤ 57
def okd (ds : List Int) : Prop := ds ≠ [] ∧ ds.length ≤ 39 ∧ digits ds
instance (ds : List Int) : Decidable (digits ds) := inferInstanceAs (Decidable (∀ d ∈ ds, 48 ≤ d ∧ d ≤ 57))
instance (ds : List Int) : Decidable (okd ds) := inferInstanceAs (Decidable (_ ∧ _))
def wn (s : Int) : Int := wh s * 18446744073709551616 + wl s
def prsB (ng : Bool) (ds xs : List Int) : Option Int := if okd ds ∧ txt (wn (if ng = true then -pv ds else pv ds)) = xs then some (wn (if ng = true then -pv ds else pv ds)) else none
def prs (xs : List Int) : Option Int := if xs.head? = some 45 then prsB true xs.tail xs else prsB false xs xs
theorem prs_neg {xs ds : List Int} (h : xs = 45 :: ds) : prs xs = prsB true ds xs := by subst h; rfl
theorem prs_pos {xs : List Int} (h : xs.head? ≠ some 45) : prs xs = prsB false xs xs := by unfold prs; rw [if_neg h]
/-- A text in its parts. -/
def Cutd (s t : ByteArray) (b : Bool) : Prop := (b = true ∧ sB s = 45 :: sB t) ∨ (b = false ∧ (sB s).head? ≠ some 45 ∧ t = s)
theorem Cutd.prs {s t : ByteArray} {b : Bool} (h : Cutd s t b) : B.prs (sB s) = prsB b (sB t) (sB s) := by
  rcases h with ⟨rfl, h⟩ | ⟨rfl, h, rfl⟩
  · exact prs_neg h
  · exact prs_pos h
theorem prsB_bad {b : Bool} {ds xs : List Int} (h : ¬ okd ds) : prsB b ds xs = none := by unfold prsB; rw [if_neg (fun k => h k.1)]
theorem prsB_no {b : Bool} {ds xs : List Int} (h : txt (wn (if b = true then -pv ds else pv ds)) ≠ xs) : prsB b ds xs = none := by unfold prsB; rw [if_neg (fun k => h k.2)]
theorem prsB_ok {b : Bool} {ds xs : List Int} (h : okd ds) (h2 : txt (wn (if b = true then -pv ds else pv ds)) = xs) : prsB b ds xs = some (wn (if b = true then -pv ds else pv ds)) := by unfold prsB; rw [if_pos ⟨h, h2⟩]
theorem Cutd.size {s t : ByteArray} {b : Bool} (h : Cutd s t b) : t.size ≤ s.size := by
  rcases h with ⟨_, h⟩ | ⟨_, _, rfl⟩
  · have := congrArg List.length h
    rw [sB_len, List.length_cons, sB_len] at this; omega
  · exact Nat.le_refl _
theorem dig_succ {ds : List Int} {i : Nat} {u : Int} (h : digits (ds.take i)) (hu : ds[i]? = some u) (hd : 48 ≤ u ∧ u ≤ 57) : digits (ds.take (i + 1)) := by
  intro x hx
  rw [List.take_add_one, hu] at hx
  rcases List.mem_append.1 hx with hx | hx
  · exact h x hx
  · simp at hx; subst hx; exact hd
theorem pv_succ {ds : List Int} {i : Nat} {u : Int} (hu : ds[i]? = some u) : pv (ds.take (i + 1)) = pv (ds.take i) * 10 + (u - 48) := by
  rw [List.take_add_one, hu]; exact pv_snoc _ _
/-- A digit more. -/
theorem parse_step {p d X : Int} (hd : 0 ≤ d ∧ d ≤ 9) (hX : X = IntKind.i64.wrap (IntKind.i64.wrap (wh p * 10) + wl p * 10 / 18446744073709551616)) :
    wh (X * 18446744073709551616 + wl p * 10 % 18446744073709551616 + (wh d * 18446744073709551616 + wl d) + 0) = wh (p * 10 + d) ∧ wl (X * 18446744073709551616 + wl p * 10 % 18446744073709551616 + (wh d * 18446744073709551616 + wl d) + 0) = wl (p * 10 + d) := by
  obtain ⟨k, hk⟩ := w_again p
  obtain ⟨j, hj⟩ := w_again d
  have h1 : ∃ a, IntKind.i64.wrap (wh p * 10) = wh p * 10 + a * 18446744073709551616 := ⟨-((wh p * 10 + 9223372036854775808) / 18446744073709551616), by rw [wrap_i64m]; omega⟩
  obtain ⟨a, ha⟩ := h1
  have h2 : ∃ b, X = wh p * 10 + wl p * 10 / 18446744073709551616 + b * 18446744073709551616 := by
    rw [hX, ha, wrap_i64m]
    exact ⟨a - ((wh p * 10 + a * 18446744073709551616 + wl p * 10 / 18446744073709551616 + 9223372036854775808) / 18446744073709551616), by omega⟩
  obtain ⟨b, hb⟩ := h2
  refine w_congr (10 * k + j + b) ?_
  rw [hb]
  omega
theorem neg_step {p : Int} : wh ((-1 - wh p) * 18446744073709551616 + (18446744073709551615 - wl p) + (0 * 18446744073709551616 + 0) + 1) = wh (-p) ∧ wl ((-1 - wh p) * 18446744073709551616 + (18446744073709551615 - wl p) + (0 * 18446744073709551616 + 0) + 1) = wl (-p) := by
  obtain ⟨k, hk⟩ := w_again p
  exact w_congr (-k) (by omega)
theorem wn_fit {s : Int} (h : wfit s) : wn s = s := w_back h
theorem okd_of {t : ByteArray} {i : Nat} (h0 : t ≠ ⟨#[]⟩) (h1 : ¬ (t.size : Int) > 39) (h2 : digits ((sB t).take i)) (h3 : t.size ≤ i) : okd (sB t) := by
  have hl := sB_len t
  rw [List.take_of_length_le (by omega)] at h2
  refine ⟨fun e => h0 ?_, by omega, h2⟩
  exact sB_inj (by rw [e]; rfl)
theorem okd_nil {t : ByteArray} (h : t = ⟨#[]⟩) : ¬ okd (sB t) := fun k => k.1 (by rw [h]; rfl)
theorem okd_long {t : ByteArray} (h : (t.size : Int) > 39) : ¬ okd (sB t) := fun k => by have := k.2.1; rw [sB_len] at this; omega
theorem okd_bad {t : ByteArray} {i : Nat} {u : Int} (hu : (sB t)[i]? = some u) (h : ¬ (48 ≤ u ∧ u ≤ 57)) : ¬ okd (sB t) := fun k => h (k.2.2 u (List.mem_of_getElem? hu))
/-- .. for whoever reckons it. -/
def txtL (z : Int) : List Int := if z < 0 then 45 :: (low 40 z.natAbs).reverse else (low 40 z.natAbs).reverse
theorem txt_low {z : Int} (h : z.natAbs < 10 ^ 40) : txt z = txtL z := by
  unfold txt txtL
  rw [dl_low 39 _ h]
end Go.Proofs.Ytnfideifgegijaa.B

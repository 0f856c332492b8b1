/- Windows of time: what the layer's functions tell, in plain numbers; a cut in a walk. -/
import Derived.Test.YtiffedgmageiaaaGap
import Derived.Test.YtiffedgmageiaaaMul
namespace Go.Proofs.Ytiffedgmageiaaa.B
set_option linter.unusedVariables false
set_option linter.unusedSimpArgs false
section
variable {P : Program} {n : Nat} {x y : Code} {Q : Exit → Regs → World → Prop} {r : Regs} {w : World}
theorem WR.cutE {J : Regs → Regs → World → Prop} (h : WR P n x (thenR (J r) Q) r w) (h2 : ∀ rr w', J r rr w' → WR P n y Q rr w') : WR P n (.seq x y) Q r w := WR.cut (J r) h h2
end
def gri (w p m : Int) : Int := if 1 ≤ w ∧ w ≤ 1099511627776 ∧ 0 ≤ p ∧ p ≤ 3 ∧ 0 ≤ m ∧ m ≤ 4611686018427387903 then 1 else 0
theorem gri_cases (w p m : Int) : (gri w p m = 1 ∧ 1 ≤ w ∧ w ≤ 1099511627776 ∧ 0 ≤ p ∧ p ≤ 3 ∧ 0 ≤ m ∧ m ≤ 4611686018427387903) ∨ (gri w p m = 0 ∧ ¬ (1 ≤ w ∧ w ≤ 1099511627776 ∧ 0 ≤ p ∧ p ≤ 3 ∧ 0 ≤ m ∧ m ≤ 4611686018427387903)) := by
  unfold gri
  by_cases h : 1 ≤ w ∧ w ≤ 1099511627776 ∧ 0 ≤ p ∧ p ≤ 3 ∧ 0 ≤ m ∧ m ≤ 4611686018427387903
  · exact .inl ⟨if_pos h, h⟩
  · exact .inr ⟨if_neg h, h⟩
abbrev GR (w p m : Int) : Prop := gri w p m = 1
theorem gr_of {w p m : Int} (h : GR w p m) : 1 ≤ w ∧ w ≤ 1099511627776 ∧ 0 ≤ p ∧ p ≤ 3 ∧ 0 ≤ m ∧ m ≤ 4611686018427387903 := by
  rcases gri_cases w p m with h1 | h1
  · exact h1.2
  · rw [h] at h1; omega
def win (w p m t : Int) : Int := if GR w p m then t / w else 0
theorem win_cases (w p m t : Int) : (GR w p m ∧ win w p m t = t / w) ∨ (¬ GR w p m ∧ win w p m t = 0) := by
  unfold win
  by_cases h : GR w p m
  · exact .inl ⟨h, if_pos h⟩
  · exact .inr ⟨h, if_neg h⟩
def mtE (w p m a b : Int) : Int := if GR w p m then (if b < a then 10 else 0) else 21
def mtV (w p m a b t : Int) : Int := if GR w p m then (if b < a then 0 else t / w) else 0
theorem mt_cases (w p m a b : Int) : (¬ GR w p m ∧ mtE w p m a b = 21 ∧ ∀ t, mtV w p m a b t = 0) ∨ (GR w p m ∧ b < a ∧ mtE w p m a b = 10 ∧ ∀ t, mtV w p m a b t = 0) ∨ (GR w p m ∧ a ≤ b ∧ mtE w p m a b = 0 ∧ ∀ t, mtV w p m a b t = t / w) := by
  unfold mtE mtV
  by_cases h : GR w p m
  · by_cases h2 : b < a
    · exact .inr (.inl ⟨h, h2, by simp [h, h2], fun t => by simp [h, h2]⟩)
    · exact .inr (.inr ⟨h, by omega, by simp [h, h2], fun t => by simp [h, h2]⟩)
  · exact .inl ⟨h, by rw [if_neg h], fun t => by rw [if_neg h]⟩
theorem mt_at (w p m a b : Int) : (¬ GR w p m ∧ mtE w p m a b = 21 ∧ mtV w p m a b a = 0 ∧ mtV w p m a b b = 0) ∨ (GR w p m ∧ b < a ∧ mtE w p m a b = 10 ∧ mtV w p m a b a = 0 ∧ mtV w p m a b b = 0) ∨ (GR w p m ∧ a ≤ b ∧ mtE w p m a b = 0 ∧ mtV w p m a b a = a / w ∧ mtV w p m a b b = b / w) := by
  rcases mt_cases w p m a b with ⟨h, h2, h3⟩ | ⟨h, h2, h3, h4⟩ | ⟨h, h2, h3, h4⟩
  · exact .inl ⟨h, h2, h3 a, h3 b⟩
  · exact .inr (.inl ⟨h, h2, h3, h4 a, h4 b⟩)
  · exact .inr (.inr ⟨h, h2, h3, h4 a, h4 b⟩)
/-- The window that is picked, and the error. -/
def pkE (w p m a b : Int) : Int := if GR w p m then (if b < a then 10 else if m < b - a then 17 else if p = 3 ∧ a / w ≠ b / w then 17 else 0) else 21
def pkV (w p m a b : Int) : Int := if pkE w p m a b = 0 then (if p = 1 then b / w else if p = 2 then md a b / w else a / w) else 0
theorem pk_cases (w p m a b : Int) : (¬ GR w p m ∧ pkE w p m a b = 21 ∧ pkV w p m a b = 0) ∨ (GR w p m ∧ b < a ∧ pkE w p m a b = 10 ∧ pkV w p m a b = 0) ∨ (GR w p m ∧ a ≤ b ∧ m < b - a ∧ pkE w p m a b = 17 ∧ pkV w p m a b = 0) ∨
    (GR w p m ∧ a ≤ b ∧ b - a ≤ m ∧ ((p = 0 ∧ pkE w p m a b = 0 ∧ pkV w p m a b = a / w) ∨ (p = 1 ∧ pkE w p m a b = 0 ∧ pkV w p m a b = b / w) ∨ (p = 2 ∧ pkE w p m a b = 0 ∧ pkV w p m a b = md a b / w) ∨
      (p = 3 ∧ a / w ≠ b / w ∧ pkE w p m a b = 17 ∧ pkV w p m a b = 0) ∨ (p = 3 ∧ a / w = b / w ∧ pkE w p m a b = 0 ∧ pkV w p m a b = a / w))) := by
  unfold pkV
  by_cases h : GR w p m
  · by_cases h2 : b < a
    · have e : pkE w p m a b = 10 := by unfold pkE; rw [if_pos h, if_pos h2]
      rw [e]; exact .inr (.inl ⟨h, h2, rfl, if_neg (by decide)⟩)
    · by_cases h3 : m < b - a
      · have e : pkE w p m a b = 17 := by unfold pkE; rw [if_pos h, if_neg h2, if_pos h3]
        rw [e]; exact .inr (.inr (.inl ⟨h, by omega, h3, rfl, if_neg (by decide)⟩))
      · refine .inr (.inr (.inr ⟨h, by omega, by omega, ?_⟩))
        by_cases h4 : p = 3 ∧ a / w ≠ b / w
        · have e : pkE w p m a b = 17 := by unfold pkE; rw [if_pos h, if_neg h2, if_neg h3, if_pos h4]
          rw [e]; exact .inr (.inr (.inr (.inl ⟨h4.1, h4.2, rfl, if_neg (by decide)⟩)))
        · have e : pkE w p m a b = 0 := by unfold pkE; rw [if_pos h, if_neg h2, if_neg h3, if_neg h4]
          rw [e, if_pos rfl]
          obtain ⟨_, _, hp0, hp3, _, _⟩ := gr_of h
          rcases (show p = 0 ∨ p = 1 ∨ p = 2 ∨ p = 3 by omega) with rfl | rfl | rfl | rfl
          · exact .inl ⟨rfl, rfl, by simp⟩
          · exact .inr (.inl ⟨rfl, rfl, by simp⟩)
          · exact .inr (.inr (.inl ⟨rfl, rfl, by simp⟩))
          · have h5 : a / w = b / w := Decidable.byContradiction fun h6 => h4 ⟨rfl, h6⟩
            exact .inr (.inr (.inr (.inr ⟨rfl, h5, rfl, by simp⟩)))
  · have e : pkE w p m a b = 21 := by unfold pkE; rw [if_neg h]
    rw [e]; exact .inl ⟨h, rfl, if_neg (by decide)⟩
/-- A window's times. -/
def SpanP (w p m k lo hi e : Int) : Prop :=
  (¬ GR w p m ∧ lo = 0 ∧ hi = 0 ∧ e = 21) ∨ (GR w p m ∧ ¬ (fits (k * w) ∧ fits (k * w + (w - 1))) ∧ lo = 0 ∧ hi = 0 ∧ e = 12) ∨ (GR w p m ∧ (fits (k * w) ∧ fits (k * w + (w - 1))) ∧ lo = k * w ∧ hi = k * w + (w - 1) ∧ e = 0)
theorem SpanP.same {w p m k lo hi e lo' hi' e' : Int} (h : SpanP w p m k lo hi e) (h' : SpanP w p m k lo' hi' e') : lo = lo' ∧ hi = hi' ∧ e = e' := by
  rcases h with h | h | h <;> rcases h' with h' | h' | h' <;> first | exact absurd h.1 h'.1 | exact absurd h'.1 h.1 | exact absurd h.2.1 h'.2.1 | exact absurd h'.2.1 h.2.1 | omega
theorem ratio_one {t w : Int} {up : Bool} (h : 1 ≤ w) : (if w < 1 then Value.tuple #[.int .i64 0, .int .i64 11] else told (quot (t * 1) w false)) = told (t / w) := by
  rw [if_neg (by omega), Int.mul_one]; rfl
theorem div_fits {t w : Int} (h : 1 ≤ w) (ht : fits t) : fits (t / w) := by
  unfold fits at *
  have h1 : t / w * w ≤ t := Int.ediv_mul_le t (by omega)
  have h2 := Int.lt_ediv_add_one_mul_self t (show 0 < w by omega)
  rw [Int.add_mul] at h2
  constructor
  · refine Int.not_lt.1 fun h3 => ?_
    have : (t / w + 1) * w ≤ -9223372036854775808 * w := Int.mul_le_mul_of_nonneg_right (by omega) (by omega)
    rw [Int.add_mul] at this; omega
  · refine Int.not_lt.1 fun h3 => ?_
    have : 9223372036854775808 * w ≤ t / w * w := Int.mul_le_mul_of_nonneg_right (by omega) (by omega)
    omega
theorem div_le {a b w : Int} (h : 1 ≤ w) (hab : a ≤ b) : a / w ≤ b / w := Int.ediv_le_ediv (by omega) hab
theorem md_le {a b : Int} (h : a ≤ b) : a ≤ md a b ∧ md a b ≤ b := by have := md_cases a b; omega
theorem told_div {t w : Int} (h : 1 ≤ w) (ht : fits t) : told (t / w) = .tuple #[.int .i64 (t / w), .int .i64 0] := told_in (div_fits h ht)
theorem tup3i {a b c a' b' c' : Int} (h : a = a') (h2 : b = b') (h3 : c = c') : Value.tuple #[.int .i64 a, .int .i64 b, .int .i64 c] = .tuple #[.int .i64 a', .int .i64 b', .int .i64 c'] := by rw [h, h2, h3]
theorem cmp_gt (x y : Int) : ((if x < y then (-1 : Int) else if x = y then 0 else 1) > 0 ∧ y < x) ∨ (¬ (if x < y then (-1 : Int) else if x = y then 0 else 1) > 0 ∧ x ≤ y) := by
  by_cases h : x < y
  · rw [if_pos h]; omega
  · rw [if_neg h]
    by_cases h2 : x = y
    · rw [if_pos h2]; omega
    · rw [if_neg h2]; omega
end Go.Proofs.Ytiffedgmageiaaa.B

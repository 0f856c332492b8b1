/- Gaps: what the layer's functions tell, in plain numbers. -/
import Derived.Test.YtiffedgmageiaaaDiv
namespace Go.Proofs.Ytiffedgmageiaaa.B
set_option linter.unusedVariables false
set_option linter.unusedSimpArgs false

/-- How far the ends are apart. -/
def wd (a b : Int) : Int := if a ≤ b then b - a else 0
theorem wd_cases (a b : Int) : (b < a ∧ wd a b = 0) ∨ (a ≤ b ∧ wd a b = b - a) := by unfold wd; split <;> omega
theorem wd_wrap {a b : Int} (h : a ≤ b) (ha : -9223372036854775808 ≤ a) (hb : b ≤ 9223372036854775807) : IntKind.u64.wrap (IntKind.u64.wrap b - IntKind.u64.wrap a) = wd a b := by
  have := wd_cases a b
  simp only [wrap_u64m]; omega
/-- The middle. -/
def md (a b : Int) : Int := if a ≤ b then (a + b) / 2 else 0
theorem md_cases (a b : Int) : (b < a ∧ md a b = 0) ∨ (a ≤ b ∧ md a b = (a + b) / 2) := by unfold md; split <;> omega
def meetF (p q : Int × Int) : Int × Int := (max p.1 q.1, min p.2 q.2)
def hullF (p q : Int × Int) : Int × Int := (min p.1 q.1, max p.2 q.2)
def lim (x : Int × Int) : Prop := fits x.1 ∧ fits x.2
/-- What gaps that are joined tell. -/
def FoldP (F : Int × Int → Int × Int → Int × Int) (s : Int × Int) (xs : List (Int × Int)) (p q e : Int) : Prop :=
  (¬ (∀ x ∈ xs, x.1 ≤ x.2) ∧ p = 0 ∧ q = 0 ∧ e = 10) ∨ ((∀ x ∈ xs, x.1 ≤ x.2) ∧ (xs.foldl F s).2 < (xs.foldl F s).1 ∧ p = 0 ∧ q = 0 ∧ e = 13) ∨
    ((∀ x ∈ xs, x.1 ≤ x.2) ∧ (xs.foldl F s).1 ≤ (xs.foldl F s).2 ∧ p = (xs.foldl F s).1 ∧ q = (xs.foldl F s).2 ∧ e = 0)
theorem FoldP.same {F : Int × Int → Int × Int → Int × Int} {s : Int × Int} {xs : List (Int × Int)} {p q e p' q' e' : Int} (h : FoldP F s xs p q e) (h' : FoldP F s xs p' q' e') : p = p' ∧ q = q' ∧ e = e' := by
  unfold FoldP at h h'
  rcases h with h | h | h <;> rcases h' with h' | h' | h' <;> first | exact absurd h'.1 h.1 | exact absurd h.1 h'.1 | omega
theorem all_take {xs : List (Int × Int)} {i : Nat} {u : Int × Int} (h : ∀ x ∈ xs.take i, x.1 ≤ x.2) (hu : xs[i]? = some u) (hc : u.1 ≤ u.2) : ∀ x ∈ xs.take (i + 1), x.1 ≤ x.2 := by
  intro x hx
  rw [List.take_add_one, hu] at hx
  rcases List.mem_append.1 hx with hx | hx
  · exact h x hx
  · simp at hx; subst hx; exact hc
theorem fold_succ {α β : Type} {F : β → α → β} {s : β} {xs : List α} {i : Nat} {u : α} (hu : xs[i]? = some u) : (xs.take (i + 1)).foldl F s = F ((xs.take i).foldl F s) u := by
  rw [List.take_add_one, hu, List.foldl_append]; rfl
theorem getZ {α : Type} {xs : List α} {i : Nat} {u : α} (hu : xs[((i : Int)).toNat]? = some u) : xs[i]? = some u := by rwa [Int.toNat_natCast] at hu
theorem mid_quot {a b : Int} (h : a ≤ b) : quot (a + b) 2 false = md a b := by
  have := md_cases a b
  unfold quot
  simp only [Bool.false_eq_true, if_false]; omega
theorem mid_fits {a b : Int} (ha : fits a) (hb : fits b) : fits (quot (a + b) 2 false) := by
  unfold quot fits at *
  simp only [Bool.false_eq_true, if_false]; omega
theorem hull_first {xs : List (Int × Int)} {u : Int × Int} (hu : xs[0]? = some u) (hf : lim u) : (xs.take 1).foldl hullF (9223372036854775807, -9223372036854775808) = (u.1, u.2) := by
  obtain ⟨h1, h2⟩ := hf
  unfold fits at h1 h2
  rw [List.take_add_one, hu]
  show hullF _ _ = _
  simp only [List.take_zero, List.foldl_nil, hullF]
  rw [Int.min_eq_right (by omega), Int.max_eq_right (by omega)]
theorem hull_mono {xs : List (Int × Int)} (hr : ∀ x ∈ xs, x.1 ≤ x.2) : ∀ s : Int × Int, s.1 ≤ s.2 → (xs.foldl hullF s).1 ≤ (xs.foldl hullF s).2 := by
  induction xs with
  | nil => intro s h; exact h
  | cons x xs ih =>
    intro s h
    have := hr x (List.mem_cons_self ..)
    exact ih (fun y hy => hr y (List.mem_cons_of_mem _ hy)) (hullF s x) (by simp only [hullF]; omega)
theorem hull_right {xs : List (Int × Int)} (hr : ∀ x ∈ xs, x.1 ≤ x.2) (hf : ∀ x ∈ xs, lim x) (hn : 0 < xs.length) : (xs.foldl hullF (9223372036854775807, -9223372036854775808)).1 ≤ (xs.foldl hullF (9223372036854775807, -9223372036854775808)).2 := by
  match xs, hn with
  | x :: xs, _ =>
    have h1 := hr x (List.mem_cons_self ..)
    obtain ⟨h2, h3⟩ := hf x (List.mem_cons_self ..)
    unfold fits at h2 h3
    exact hull_mono (fun y hy => hr y (List.mem_cons_of_mem _ hy)) (hullF _ x) (by simp only [hullF]; omega)
theorem each_succ {α : Type} {P : α → Prop} {xs : List α} {i : Nat} {u : α} (hu : xs[i]? = some u) : (∀ g ∈ xs.take (i + 1), P g) ↔ (∀ g ∈ xs.take i, P g) ∧ P u := by
  rw [List.take_add_one, hu]
  constructor
  · exact fun h => ⟨fun g hg => h g (List.mem_append_left _ hg), h u (List.mem_append_right _ (by simp))⟩
  · rintro ⟨h1, h2⟩ g hg
    rcases List.mem_append.1 hg with h | h
    · exact h1 g h
    · simp at h; subst h; exact h2
theorem some_succ {α : Type} {P : α → Prop} {xs : List α} {i : Nat} {u : α} (hu : xs[i]? = some u) : (∃ g ∈ xs.take (i + 1), P g) ↔ (∃ g ∈ xs.take i, P g) ∨ P u := by
  rw [List.take_add_one, hu]
  constructor
  · rintro ⟨g, hg, h⟩
    rcases List.mem_append.1 hg with h' | h'
    · exact .inl ⟨g, h', h⟩
    · simp at h'; subst h'; exact .inr h
  · rintro (⟨g, hg, h⟩ | h)
    · exact ⟨g, List.mem_append_left _ hg, h⟩
    · exact ⟨u, List.mem_append_right _ (by simp), h⟩
theorem meet_fold {x : Int} : ∀ (xs : List (Int × Int)) (s : Int × Int), ((xs.foldl meetF s).1 ≤ x ↔ s.1 ≤ x ∧ ∀ g ∈ xs, g.1 ≤ x) ∧ (x ≤ (xs.foldl meetF s).2 ↔ x ≤ s.2 ∧ ∀ g ∈ xs, x ≤ g.2)
  | [], s => by simp
  | g :: xs, s => by
    obtain ⟨h1, h2⟩ := meet_fold (x := x) xs (meetF s g)
    rw [List.foldl_cons, h1, h2, List.forall_mem_cons, List.forall_mem_cons]
    simp only [meetF]
    constructor
    · constructor
      · rintro ⟨h, h'⟩; exact ⟨by omega, by omega, h'⟩
      · rintro ⟨h, h', h''⟩; exact ⟨by omega, h''⟩
    · constructor
      · rintro ⟨h, h'⟩; exact ⟨by omega, by omega, h'⟩
      · rintro ⟨h, h', h''⟩; exact ⟨by omega, h''⟩
theorem hull_fold : ∀ (xs : List (Int × Int)) (s : Int × Int), (xs.foldl hullF s).1 ≤ s.1 ∧ s.2 ≤ (xs.foldl hullF s).2 ∧ ∀ g ∈ xs, (xs.foldl hullF s).1 ≤ g.1 ∧ g.2 ≤ (xs.foldl hullF s).2
  | [], s => ⟨Int.le_refl _, Int.le_refl _, fun _ h => by cases h⟩
  | g :: xs, s => by
    obtain ⟨h1, h2, h3⟩ := hull_fold xs (hullF s g)
    rw [List.foldl_cons]
    simp only [hullF] at h1 h2 h3 ⊢
    refine ⟨by omega, by omega, fun k hk => ?_⟩
    rcases List.mem_cons.1 hk with rfl | hk
    · exact ⟨by omega, by omega⟩
    · exact h3 k hk
section
variable {xs : List (Int × Int)} {p q e x : Int}
theorem meet_has (h : FoldP meetF (-9223372036854775808, 9223372036854775807) xs p q e) (hr : ∀ g ∈ xs, g.1 ≤ g.2) (hx : fits x) : (e = 0 ∧ p ≤ x ∧ x ≤ q) ↔ ∀ g ∈ xs, g.1 ≤ x ∧ x ≤ g.2 := by
  obtain ⟨h1, h2⟩ := meet_fold (x := x) xs (-9223372036854775808, 9223372036854775807)
  obtain ⟨hx1, hx2⟩ := hx
  rcases h with h | h | h
  · exact absurd hr h.1
  · constructor
    · intro h'; omega
    · intro h'
      have := h1.2 ⟨by simpa using hx1, fun g hg => (h' g hg).1⟩
      have := h2.2 ⟨by simpa using hx2, fun g hg => (h' g hg).2⟩
      omega
  · rw [h.2.2.1, h.2.2.2.1]
    constructor
    · rintro ⟨_, h3, h4⟩ g hg; exact ⟨(h1.1 h3).2 g hg, (h2.1 h4).2 g hg⟩
    · intro h'; exact ⟨h.2.2.2.2, h1.2 ⟨by simpa using hx1, fun g hg => (h' g hg).1⟩, h2.2 ⟨by simpa using hx2, fun g hg => (h' g hg).2⟩⟩
theorem hull_in (h : FoldP hullF (9223372036854775807, -9223372036854775808) xs p q e) (hr : ∀ g ∈ xs, g.1 ≤ g.2) {g : Int × Int} (hg : g ∈ xs) : e = 0 ∧ p ≤ g.1 ∧ g.2 ≤ q := by
  obtain ⟨_, _, h3⟩ := hull_fold xs (9223372036854775807, -9223372036854775808)
  have h4 := h3 g hg
  have h5 := hr g hg
  rcases h with h | h | h
  · exact absurd hr h.1
  · omega
  · omega
theorem hull_some (h : FoldP hullF (9223372036854775807, -9223372036854775808) xs p q e) (hr : ∀ g ∈ xs, g.1 ≤ g.2) (hs : ∃ g ∈ xs, g.1 ≤ x ∧ x ≤ g.2) : e = 0 ∧ p ≤ x ∧ x ≤ q := by
  obtain ⟨g, hg, h1⟩ := hs
  have := hull_in h hr hg
  omega
theorem meet_in (h : FoldP meetF (-9223372036854775808, 9223372036854775807) xs p q e) (he : e = 0) {g : Int × Int} (hg : g ∈ xs) : p ≤ q ∧ g.1 ≤ p ∧ q ≤ g.2 := by
  rcases h with h | h | h
  · omega
  · omega
  · obtain ⟨h1, _⟩ := meet_fold (x := (xs.foldl meetF (-9223372036854775808, 9223372036854775807)).1) xs (-9223372036854775808, 9223372036854775807)
    obtain ⟨_, h2⟩ := meet_fold (x := (xs.foldl meetF (-9223372036854775808, 9223372036854775807)).2) xs (-9223372036854775808, 9223372036854775807)
    have h3 := (h1.1 (Int.le_refl _)).2 g hg
    have h4 := (h2.1 (Int.le_refl _)).2 g hg
    omega
end
theorem beq_not {p : Prop} [Decidable p] {b : Bool} (h : p ↔ b = true) : (!(decide p == b)) = false := by
  cases b
  · simp at h; simp [h]
  · simp at h; simp [h]
theorem beq_not' {b : Bool} (h : ¬ b = true) : (!(false == b)) = false := by
  cases b <;> simp at h ⊢
/-- Three gaps, and two, spelt out. -/
def Three (lo hi p q e : Int) (r : Prop) : Prop := (¬ r ∧ p = 0 ∧ q = 0 ∧ e = 10) ∨ (r ∧ hi < lo ∧ p = 0 ∧ q = 0 ∧ e = 13) ∨ (r ∧ lo ≤ hi ∧ p = lo ∧ q = hi ∧ e = 0)
theorem fold3 {F : Int × Int → Int × Int → Int × Int} {s x y z : Int × Int} {p q e : Int} (h : FoldP F s [x, y, z] p q e) : Three (F (F (F s x) y) z).1 (F (F (F s x) y) z).2 p q e (x.1 ≤ x.2 ∧ y.1 ≤ y.2 ∧ z.1 ≤ z.2) := by
  unfold FoldP at h
  simpa [Three] using h
theorem fold2 {F : Int × Int → Int × Int → Int × Int} {s x y : Int × Int} {p q e : Int} (h : FoldP F s [x, y] p q e) : Three (F (F s x) y).1 (F (F s x) y).2 p q e (x.1 ≤ x.2 ∧ y.1 ≤ y.2) := by
  unfold FoldP at h
  simpa [Three] using h
end Go.Proofs.Ytiffedgmageiaaa.B

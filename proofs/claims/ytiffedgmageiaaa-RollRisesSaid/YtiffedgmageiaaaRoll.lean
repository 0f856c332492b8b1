/- Rolls: entries by agent, as the program and as the document keep them. -/
import Derived.Test.YtiffedgmageiaaaTab
import Derived.Test.YtiffedgmageiaaaIterX
import Derived.Test.YtiffedgmageiaaaRngQ
import Derived.Test.YtiffedgmageiaaaArr
import Derived.Test.YtiffedgmageiaaaGrid
namespace Go.Proofs.Ytiffedgmageiaaa.B
set_option linter.unusedVariables false
set_option linter.unusedSimpArgs false
open Go.RowKit
theorem getD_tab {α : Type} {l : List α} {k : Nat} {z : α} (h : k < l.length) : l[k]? = some (l.getD k z) := by rw [List.getD_eq_getElem?_getD, List.getElem?_eq_getElem h]; rfl
theorem getD_tabN {α : Type} {l : List α} {i : Nat} {z : α} (h : i < l.length) : l[((i : Nat) : Int).toNat]? = some (l.getD i z) := getD_tab h
abbrev E3 := Int × Int × Int
abbrev zE : E3 := (0, 0, 0)
def entV (e : E3) : Value := .agg #[.int .i64 e.1, .int .i64 e.2.1, .int .i64 e.2.2]
def e3C (e : E3) : List Value := [.int .i64 e.1, .int .i64 e.2.1, .int .i64 e.2.2]
def entA (x : Int × E3) : Array Value := #[.int .i64 x.1, entV x.2]
/-! ## maps as lists that rise -/
section
variable {β : Type} {m : List (Int × β)} {k j : Int} {v : β}
theorem aget_ains {x : Int × β} : ∀ (l : List (Int × β)), (∀ p ∈ l, p.1 ≠ x.1) → ∀ j, aget (ains x l) j = if j = x.1 then some x.2 else aget l j
  | [], _, j => by
    unfold ains aget
    by_cases h : j = x.1
    · subst h; simp
    · rw [if_neg h]; simp [Ne.symm h]
  | y :: r, h, j => by
    have ih := aget_ains r (fun p hp => h p (List.mem_cons_of_mem _ hp)) j
    have hy := h y (List.mem_cons_self ..)
    unfold ains
    split
    · unfold aget
      by_cases hj : j = x.1
      · subst hj; simp
      · rw [if_neg hj]; simp [List.find?_cons, Ne.symm hj]
    · unfold aget at ih ⊢
      simp only [List.find?_cons]
      by_cases hyj : y.1 = j
      · subst hyj
        simp [hy]
      · have : (y.1 == j) = false := by simpa using hyj
        rw [this]; exact ih
theorem aget_adel : aget (adel m k) j = if j = k then none else aget m j := by
  unfold aget adel
  induction m with
  | nil => simp
  | cons p r ih =>
    rw [List.filter_cons]
    by_cases hp : p.1 = k
    · rw [if_neg (by simp [hp]), ih]
      by_cases hj : j = k
      · rw [if_pos hj, if_pos hj]
      · rw [if_neg hj, if_neg hj, List.find?_cons]
        have : (p.1 == j) = false := by rw [hp]; simpa using Ne.symm hj
        rw [this]
    · rw [if_pos (by simpa using hp), List.find?_cons, List.find?_cons]
      by_cases hpj : p.1 = j
      · have : (p.1 == j) = true := by simpa using hpj
        rw [this, if_neg (by rw [← hpj]; exact hp)]
      · have : (p.1 == j) = false := by simpa using hpj
        rw [this]; exact ih
theorem aget_aput : aget (aput m k v) j = if j = k then some v else aget m j := by
  unfold aput
  rw [aget_ains (x := (k, v)) _ (fun p hp => by
    have := (List.mem_filter.1 hp).2
    simpa using this)]
  by_cases h : j = k
  · rw [if_pos h, if_pos h]
  · rw [if_neg h, if_neg h, aget_adel, if_neg h]
theorem aget_mem {x : β} (h : aget m k = some x) : (k, x) ∈ m := by
  unfold aget at h
  obtain ⟨p, hp, rfl⟩ := Option.map_eq_some_iff.1 h
  have h1 := List.find?_some hp
  have h2 := List.mem_of_find?_eq_some hp
  have : p.1 = k := by simpa using h1
  rw [← this]; exact h2
theorem aget_of {x : β} (hr : m.Pairwise (fun a b => a.1 < b.1)) (h : (k, x) ∈ m) : aget m k = some x := by
  induction m with
  | nil => cases h
  | cons p r ih =>
    rw [List.pairwise_cons] at hr
    unfold aget
    rw [List.find?_cons]
    rcases List.mem_cons.1 h with rfl | h
    · simp
    · have := hr.1 _ h
      have hne : (p.1 == k) = false := by simp; simp at this; omega
      rw [hne]
      exact ih hr.2 h
theorem aget_none : aget m k = none ↔ ∀ p ∈ m, p.1 ≠ k := by
  unfold aget
  rw [Option.map_eq_none_iff, List.find?_eq_none]
  exact ⟨fun h p hp => by simpa using h p hp, fun h p hp => by simpa using h p hp⟩
theorem mem_ains {x y : Int × β} : ∀ (l : List (Int × β)), y ∈ ains x l ↔ y = x ∨ y ∈ l
  | [] => by unfold ains; simp
  | z :: r => by
    have ih := mem_ains (x := x) (y := y) r
    unfold ains
    split
    · simp
    · rw [List.mem_cons, ih, List.mem_cons]
      constructor
      · rintro (h | h | h)
        · exact .inr (.inl h)
        · exact .inl h
        · exact .inr (.inr h)
      · rintro (h | h | h)
        · exact .inr (.inl h)
        · exact .inl h
        · exact .inr (.inr h)
theorem ains_rise {x : Int × β} : ∀ (l : List (Int × β)), l.Pairwise (fun a b => a.1 < b.1) → (∀ p ∈ l, p.1 ≠ x.1) → (ains x l).Pairwise (fun a b => a.1 < b.1)
  | [], _, _ => by unfold ains; simp
  | y :: r, h, hn => by
    rw [List.pairwise_cons] at h
    unfold ains
    split
    · rename_i hlt
      refine List.pairwise_cons.2 ⟨fun p hp => ?_, List.pairwise_cons.2 h⟩
      rcases List.mem_cons.1 hp with rfl | hp
      · exact hlt
      · exact Int.lt_trans hlt (h.1 p hp)
    · rename_i hlt
      refine List.pairwise_cons.2 ⟨fun p hp => ?_, ains_rise r h.2 (fun p hp => hn p (List.mem_cons_of_mem _ hp))⟩
      rcases (mem_ains r).1 hp with rfl | hp
      · have := hn y (List.mem_cons_self ..); omega
      · exact h.1 p hp
theorem adel_rise (h : m.Pairwise (fun a b => a.1 < b.1)) : (adel m k).Pairwise (fun a b => a.1 < b.1) := h.filter _
theorem aput_rise (h : m.Pairwise (fun a b => a.1 < b.1)) : (aput m k v).Pairwise (fun a b => a.1 < b.1) :=
  ains_rise _ (adel_rise h) (fun p hp => by have := (List.mem_filter.1 hp).2; simpa using this)
theorem aput_mem {p : Int × β} (h : p ∈ aput m k v) : p = (k, v) ∨ p ∈ m := by
  rcases (mem_ains _).1 h with h | h
  · exact .inl h
  · exact .inr (List.mem_filter.1 h).1
theorem adel_none (h : aget m k = none) : adel m k = m := by
  unfold adel
  rw [List.filter_eq_self]
  intro p hp
  simpa using aget_none.1 h p hp
theorem aput_lenN (h : aget m k = none) : (aput m k v).length = m.length + 1 := by
  unfold aput; rw [ains_len, adel_none h]
theorem adel_lenS (hr : m.Pairwise (fun a b => a.1 < b.1)) {x : β} (h : aget m k = some x) : (adel m k).length + 1 = m.length := by
  induction m with
  | nil => cases h
  | cons p r ih =>
    rw [List.pairwise_cons] at hr
    unfold adel
    rw [List.filter_cons]
    by_cases hp : p.1 = k
    · rw [if_neg (by simp [hp])]
      have : aget r k = none := aget_none.2 (fun q hq => by have := hr.1 q hq; omega)
      have := adel_none this
      unfold adel at this
      rw [this]; rfl
    · rw [if_pos (by simpa using hp)]
      have h2 : aget r k = some x := by
        unfold aget at h ⊢
        rw [List.find?_cons] at h
        have : (p.1 == k) = false := by simpa using hp
        rw [this] at h; exact h
      have := ih hr.2 h2
      unfold adel at this
      simp only [List.length_cons]; omega
theorem aput_lenS (hr : m.Pairwise (fun a b => a.1 < b.1)) {x : β} (h : aget m k = some x) : (aput m k v).length = m.length := by
  unfold aput; rw [ains_len]; exact adel_lenS hr h
theorem ains_last {x : Int × β} : ∀ (l : List (Int × β)), (∀ p ∈ l, p.1 < x.1) → ains x l = l ++ [x]
  | [], _ => rfl
  | y :: r, h => by
    have := h y (List.mem_cons_self ..)
    unfold ains
    rw [if_neg (by omega), ains_last r (fun p hp => h p (List.mem_cons_of_mem _ hp))]; rfl
theorem aput_last (h : ∀ p ∈ m, p.1 < k) : aput m k v = m ++ [(k, v)] := by
  unfold aput
  rw [adel_none (aget_none.2 (fun p hp => by have := h p hp; omega))]
  exact ains_last m h
/-- The number behind the last key. -/
def frR (pre : List (Int × β)) : Int := (pre.getLast?.map (fun p => p.1 + 1)).getD 0
theorem frR_nil : frR ([] : List (Int × β)) = 0 := rfl
theorem frR_snoc {pre : List (Int × β)} {x : Int × β} : frR (pre ++ [x]) = x.1 + 1 := by unfold frR; simp
theorem frR_le {pre : List (Int × β)} (hr : pre.Pairwise (fun a b => a.1 < b.1)) : ∀ p ∈ pre, p.1 < frR pre := by
  intro p hp
  rcases List.eq_nil_or_concat pre with rfl | ⟨l, x, rfl⟩
  · cases hp
  · rw [List.concat_eq_append] at hp hr ⊢
    rw [frR_snoc]
    rcases List.mem_append.1 hp with h | h
    · have := (List.pairwise_append.1 hr).2.2 p h x (List.mem_singleton.2 rfl); omega
    · rw [List.mem_singleton.1 h]; omega
theorem frR_gap {pre suf : List (Int × β)} {x : Int × β} (hr : (pre ++ x :: suf).Pairwise (fun a b => a.1 < b.1)) (h : frR pre ≤ j) (h2 : j < x.1) : aget (pre ++ x :: suf) j = none := by
  obtain ⟨r1, r2, r3⟩ := List.pairwise_append.1 hr
  refine aget_none.2 (fun p hp => ?_)
  rcases List.mem_append.1 hp with hp | hp
  · have := frR_le r1 p hp; omega
  · rcases List.mem_cons.1 hp with rfl | hp
    · omega
    · have := (List.pairwise_cons.1 r2).1 p hp; omega
theorem frR_fr {pre suf : List (Int × β)} {x : Int × β} (hr : (pre ++ x :: suf).Pairwise (fun a b => a.1 < b.1)) (h0 : ∀ p ∈ pre ++ x :: suf, 0 ≤ p.1) : 0 ≤ frR pre ∧ frR pre ≤ x.1 := by
  obtain ⟨r1, r2, r3⟩ := List.pairwise_append.1 hr
  rcases List.eq_nil_or_concat pre with rfl | ⟨l, y, rfl⟩
  · exact ⟨Int.le_refl _, h0 x (by simp)⟩
  · rw [List.concat_eq_append] at r3 h0 ⊢
    rw [frR_snoc]
    have := r3 y (by simp) x (List.mem_cons_self ..)
    have := h0 y (by simp)
    omega
theorem frR_end (hr : m.Pairwise (fun a b => a.1 < b.1)) (h : frR m ≤ j) : aget m j = none :=
  aget_none.2 (fun p hp => by have := frR_le hr p hp; omega)
theorem aget_mid {pre suf : List (Int × β)} {x : Int × β} (hr : (pre ++ x :: suf).Pairwise (fun a b => a.1 < b.1)) : aget (pre ++ x :: suf) x.1 = some x.2 := aget_of hr (by simp)
/-- How many keys are below a number. -/
def below (m : List (Int × β)) (i : Int) : Nat := (m.filter (fun p => decide (p.1 < i))).length
theorem below_zero (h : ∀ p ∈ m, 0 ≤ p.1) : below m 0 = 0 := by
  unfold below
  rw [List.length_eq_zero_iff, List.filter_eq_nil_iff]
  intro p hp; have := h p hp; simp; omega
theorem below_all {i : Int} (h : ∀ p ∈ m, p.1 < i) : below m i = m.length := by
  unfold below
  rw [List.filter_eq_self.2 (fun p hp => by simpa using h p hp)]
theorem below_succ {i : Int} (hr : m.Pairwise (fun a b => a.1 < b.1)) : below m (i + 1) = below m i + (if (aget m i).isSome = true then 1 else 0) := by
  unfold below
  induction m with
  | nil => simp [aget]
  | cons p r ih =>
    rw [List.pairwise_cons] at hr
    have ih := ih hr.2
    rw [List.filter_cons, List.filter_cons]
    by_cases hp : p.1 = i
    · subst hp
      have hn : aget r p.1 = none := aget_none.2 (fun q hq => by have := hr.1 q hq; omega)
      rw [hn] at ih
      have hs : aget (p :: r) p.1 = some p.2 := by unfold aget; simp
      rw [hs]
      rw [if_pos (by simp; omega), if_neg (by simp)]
      simp at ih
      simp [ih]
    · have hs : aget (p :: r) i = aget r i := by
        unfold aget
        rw [List.find?_cons]
        have : (p.1 == i) = false := by simpa using hp
        rw [this]
      rw [hs]
      by_cases hlt : p.1 < i
      · rw [if_pos (by simp; omega), if_pos (by simpa using hlt)]
        simp only [List.length_cons]; omega
      · rw [if_neg (by simp; omega), if_neg (by simpa using hlt)]
        exact ih
end
theorem mE_keys {β : Type} {enc : β → Value} {m : List (Int × β)} : (mE enc m).map (·.1) = m.map (·.1) := by unfold mE; rw [List.map_map]; rfl
theorem keyAt {β : Type} {m : List (Int × β)} {i : Nat} {x : Int × β} (h : m[i]? = some x) : (m.map (·.1))[((i : Nat) : Int).toNat]? = some x.1 := by
  show (m.map (·.1))[i]? = _
  rw [List.getElem?_map, h]; rfl
theorem take_split {α : Type} {m : List α} {i : Nat} {x : α} (h : m[i]? = some x) : m.take i ++ x :: m.drop (i + 1) = m := by
  obtain ⟨h1, rfl⟩ := List.getElem?_eq_some_iff.1 h
  rw [List.getElem_cons_drop, List.take_append_drop]
theorem take_snoc {α : Type} {m : List α} {i : Nat} {x : α} (h : m[i]? = some x) : m.take (i + 1) = m.take i ++ [x] := by rw [List.take_add_one, h]; rfl
/-! ## entries -/
def badE (a b t : Int) : Prop := a < 0 ∨ 63 < a ∨ b < 1 ∨ 1099511627776 < b ∨ t < 0 ∨ 4611686018427387903 < t
instance {a b t : Int} : Decidable (badE a b t) := inferInstanceAs (Decidable (_ ∨ _))
abbrev EM := List (Int × E3)
def chk (mo : Int) (m : EM) (a b t : Int) : Int := if badE a b t then 11 else if (aget m a).isSome = false ∧ mo ≤ m.length then 20 else 0
def oldE (m : EM) (a : Int) : E3 := (aget m a).getD zE
def newE (m : EM) (a b t : Int) : E3 := ((oldE m a).1 + 1, b, t)
def grant (mo : Int) (m : EM) (a b t : Int) : (E3 × Bool × Int) × EM :=
  if chk mo m a b t ≠ 0 then ((zE, false, chk mo m a b t), m)
  else if (oldE m a).2.1 = b then ((oldE m a, false, 0), m)
  else if (oldE m a).2.1 > b then ((zE, false, 22), m)
  else if (oldE m a).1 = 1099511627776 then ((zE, false, 17), m)
  else ((newE m a b t, true, 0), aput m a (newE m a b t))
def sett (mo : Int) (m : EM) (a : Int) (e : E3) : Int × EM :=
  if chk mo m a e.2.1 e.2.2 = 11 ∨ e.1 < 1 ∨ 1099511627776 < e.1 then (11, m)
  else if (aget m a).isSome = true then (18, m)
  else if chk mo m a e.2.1 e.2.2 ≠ 0 then (chk mo m a e.2.1 e.2.2, m)
  else (0, aput m a e)
structure RI (mo : Int) (m : EM) : Prop where
  rise : m.Pairwise (fun a b => a.1 < b.1)
  key : ∀ p ∈ m, 0 ≤ p.1 ∧ p.1 < 64
  ep : ∀ p ∈ m, 1 ≤ p.2.1 ∧ p.2.1 ≤ 1099511627776
  good : ∀ p ∈ m, 1 ≤ p.2.2.1 ∧ p.2.2.1 ≤ 1099511627776 ∧ 0 ≤ p.2.2.2 ∧ p.2.2.2 ≤ 4611686018427387903
  len : (m.length : Int) ≤ mo
  mo0 : 1 ≤ mo ∧ mo ≤ 64
def tabR (m : EM) : List E3 := (List.range 64).map (fun i : Nat => oldE m (i : Int))
theorem tabR_len {m : EM} : (tabR m).length = 64 := by unfold tabR; rw [List.length_map, List.length_range]
theorem tabR_nat {m : EM} {i : Nat} (h : i < 64) : (tabR m).getD i zE = oldE m (i : Int) := by
  unfold tabR
  rw [List.getD_eq_getElem?_getD, List.getElem?_map, List.getElem?_range h]; rfl
theorem tabR_get {m : EM} {a : Int} (h : 0 ≤ a ∧ a < 64) : (tabR m).getD a.toNat zE = oldE m a := by
  rw [tabR_nat (by omega), show ((a.toNat : Nat) : Int) = a by omega]
theorem tabR_put {m : EM} {a : Int} {e : E3} (h : 0 ≤ a ∧ a < 64) : (tabR m).set a.toNat e = tabR (aput m a e) := by
  apply List.ext_getElem?
  intro i
  rw [List.getElem?_set]
  by_cases hi : i < 64
  · unfold tabR oldE
    rw [List.getElem?_map, List.getElem?_map, List.getElem?_range hi, List.length_map, List.length_range]
    by_cases hia : a.toNat = i
    · rw [if_pos hia, if_pos (by omega)]
      have : ((i : Nat) : Int) = a := by omega
      simp only [Option.map_some, aget_aput, this, if_true, Option.getD_some]
    · rw [if_neg hia]
      have : ((i : Nat) : Int) ≠ a := by omega
      simp only [Option.map_some, aget_aput, if_neg this]
  · rw [List.getElem?_eq_none (l := tabR (aput m a e)) (by rw [tabR_len]; omega), if_neg (by omega)]
    exact List.getElem?_eq_none (by rw [tabR_len]; omega)
section
variable {mo : Int} {m : EM} {a b t : Int} {e : E3}
theorem RI.nil (h : 1 ≤ mo ∧ mo ≤ 64) : RI mo [] := ⟨List.Pairwise.nil, (fun _ h => by cases h), (fun _ h => by cases h), (fun _ h => by cases h), by simp; omega, h⟩
theorem RI.some (h : RI mo m) (hk : (aget m a).isSome = true) : ∃ x, aget m a = some x ∧ oldE m a = x ∧ (1 ≤ x.1 ∧ x.1 ≤ 1099511627776) ∧ (1 ≤ x.2.1 ∧ x.2.1 ≤ 1099511627776 ∧ 0 ≤ x.2.2 ∧ x.2.2 ≤ 4611686018427387903) ∧ 0 ≤ a ∧ a < 64 := by
  obtain ⟨x, hx⟩ := Option.isSome_iff_exists.1 hk
  have hm := aget_mem hx
  exact ⟨x, hx, by unfold oldE; rw [hx]; rfl, h.ep _ hm, h.good _ hm, h.key _ hm⟩
theorem oldE_none (hk : (aget m a).isSome = false) : oldE m a = zE := by
  unfold oldE; cases h : aget m a with
  | none => rfl
  | some x => rw [h] at hk; cases hk
theorem oldE_put : oldE (aput m a e) a = e := by unfold oldE; rw [aget_aput, if_pos rfl]; rfl
theorem oldE_of {x : E3} (h : aget m a = some x) : oldE m a = x := by unfold oldE; rw [h]; rfl
theorem RI.out (h : RI mo m) (ha : ¬ (0 ≤ a ∧ a < 64)) : oldE m a = zE ∧ (aget m a).isSome = false := by
  have : aget m a = none := aget_none.2 (fun p hp => by have := h.key p hp; omega)
  exact ⟨by unfold oldE; rw [this]; rfl, by rw [this]; rfl⟩
theorem RI.pos (h : RI mo m) : 0 < (oldE m a).1 ↔ (aget m a).isSome = true := by
  cases hk : (aget m a).isSome with
  | true => obtain ⟨x, _, h2, h3, _⟩ := h.some hk; rw [h2]; simp; omega
  | false => rw [oldE_none hk]; simp
theorem RI.put (h : RI mo m) (hb : ¬ badE a b t) (hl : (aget m a).isSome = true ∨ (m.length : Int) < mo) {q : Int} (hq : 1 ≤ q ∧ q ≤ 1099511627776) : RI mo (aput m a (q, b, t)) := by
  unfold badE at hb
  refine ⟨aput_rise h.rise, fun p hp => ?_, fun p hp => ?_, fun p hp => ?_, ?_, h.mo0⟩
  · rcases aput_mem hp with rfl | hp
    · simp only; omega
    · exact h.key p hp
  · rcases aput_mem hp with rfl | hp
    · exact hq
    · exact h.ep p hp
  · rcases aput_mem hp with rfl | hp
    · simp only; omega
    · exact h.good p hp
  · cases hk : aget m a with
    | none => rw [aput_lenN hk]; rcases hl with q | q
              · rw [hk] at q; cases q
              · omega
    | some x => rw [aput_lenS h.rise hk]; exact h.len
theorem frR_m (h : RI mo m) : 0 ≤ frR m ∧ frR m ≤ 64 := by
  rcases List.eq_nil_or_concat m with rfl | ⟨l, x, rfl⟩
  · rw [frR_nil]; omega
  · rw [List.concat_eq_append] at h ⊢
    rw [frR_snoc]
    have := h.key x (by simp)
    omega
theorem RI.posB (h : RI mo m) : decide (0 < (oldE m a).1) = (aget m a).isSome := by
  cases hk : (aget m a).isSome with
  | true => exact decide_eq_true (h.pos.2 hk)
  | false => exact decide_eq_false (fun q => by rw [h.pos.1 q] at hk; cases hk)
theorem RI.prefix {pre suf : EM} (h : RI mo (pre ++ suf)) : RI mo pre :=
  ⟨(List.pairwise_append.1 h.rise).1, fun p hp => h.key p (List.mem_append_left _ hp), fun p hp => h.ep p (List.mem_append_left _ hp), fun p hp => h.good p (List.mem_append_left _ hp), by have := h.len; rw [List.length_append] at this; omega, h.mo0⟩
theorem chk_bad (h : badE a b t) : chk mo m a b t = 11 := by unfold chk; rw [if_pos h]
theorem chk_full (h : ¬ badE a b t) (hk : (aget m a).isSome = false) (hl : mo ≤ m.length) : chk mo m a b t = 20 := by unfold chk; rw [if_neg h, if_pos ⟨hk, hl⟩]
theorem chk_ok (h : ¬ badE a b t) (hk : (aget m a).isSome = true ∨ (m.length : Int) < mo) : chk mo m a b t = 0 := by
  unfold chk; rw [if_neg h, if_neg]
  rintro ⟨h1, h2⟩
  rcases hk with q | q
  · rw [q] at h1; cases h1
  · omega
theorem chk_cases : (badE a b t ∧ chk mo m a b t = 11) ∨ (¬ badE a b t ∧ (aget m a).isSome = false ∧ mo ≤ m.length ∧ chk mo m a b t = 20) ∨ (¬ badE a b t ∧ ((aget m a).isSome = true ∨ (m.length : Int) < mo) ∧ chk mo m a b t = 0) := by
  by_cases hb : badE a b t
  · exact .inl ⟨hb, chk_bad hb⟩
  · by_cases hk : (aget m a).isSome = true
    · exact .inr (.inr ⟨hb, .inl hk, chk_ok hb (.inl hk)⟩)
    · have hk : (aget m a).isSome = false := by simpa using hk
      by_cases hl : mo ≤ m.length
      · exact .inr (.inl ⟨hb, hk, hl, chk_full hb hk hl⟩)
      · exact .inr (.inr ⟨hb, .inr (by omega), chk_ok hb (.inr (by omega))⟩)
theorem grant_chk (h : chk mo m a b t ≠ 0) : grant mo m a b t = ((zE, false, chk mo m a b t), m) := by unfold grant; rw [if_pos h]
theorem grant_same (h : chk mo m a b t = 0) (h1 : (oldE m a).2.1 = b) : grant mo m a b t = ((oldE m a, false, 0), m) := by unfold grant; rw [if_neg (by simpa using h), if_pos h1]
theorem grant_old (h : chk mo m a b t = 0) (h1 : (oldE m a).2.1 > b) : grant mo m a b t = ((zE, false, 22), m) := by unfold grant; rw [if_neg (by simpa using h), if_neg (by omega), if_pos h1]
theorem grant_long (h : chk mo m a b t = 0) (h1 : ¬ (oldE m a).2.1 = b) (h2 : ¬ (oldE m a).2.1 > b) (h3 : (oldE m a).1 = 1099511627776) : grant mo m a b t = ((zE, false, 17), m) := by unfold grant; rw [if_neg (by simpa using h), if_neg h1, if_neg h2, if_pos h3]
theorem grant_new (h : chk mo m a b t = 0) (h1 : ¬ (oldE m a).2.1 = b) (h2 : ¬ (oldE m a).2.1 > b) (h3 : ¬ (oldE m a).1 = 1099511627776) : grant mo m a b t = ((newE m a b t, true, 0), aput m a (newE m a b t)) := by unfold grant; rw [if_neg (by simpa using h), if_neg h1, if_neg h2, if_neg h3]
theorem RI.old_fits (h : RI mo m) : 0 ≤ (oldE m a).1 ∧ (oldE m a).1 ≤ 1099511627776 ∧ 0 ≤ (oldE m a).2.1 ∧ (oldE m a).2.1 ≤ 1099511627776 ∧ 0 ≤ (oldE m a).2.2 ∧ (oldE m a).2.2 ≤ 4611686018427387903 := by
  cases hk : (aget m a).isSome with
  | true => obtain ⟨x, _, h2, h3, h4, _⟩ := h.some hk; rw [h2]; omega
  | false => rw [oldE_none hk]; simp
theorem RI.grant (h : RI mo m) : RI mo (B.grant mo m a b t).2 := by
  rcases chk_cases (mo := mo) (m := m) (a := a) (b := b) (t := t) with ⟨h1, h2⟩ | ⟨h1, h2, h3, h4⟩ | ⟨h1, h2, h3⟩
  · rw [grant_chk (by omega)]; exact h
  · rw [grant_chk (by omega)]; exact h
  · by_cases q1 : (oldE m a).2.1 = b
    · rw [grant_same h3 q1]; exact h
    · by_cases q2 : (oldE m a).2.1 > b
      · rw [grant_old h3 q2]; exact h
      · by_cases q3 : (oldE m a).1 = 1099511627776
        · rw [grant_long h3 q1 q2 q3]; exact h
        · rw [grant_new h3 q1 q2 q3]
          have := h.old_fits (a := a)
          exact h.put h1 h2 (by omega)
theorem sett_err (h : chk mo m a e.2.1 e.2.2 = 11 ∨ e.1 < 1 ∨ 1099511627776 < e.1) : sett mo m a e = (11, m) := by unfold sett; rw [if_pos h]
theorem sett_there (h : ¬ badE a e.2.1 e.2.2) (h1 : 1 ≤ e.1 ∧ e.1 ≤ 1099511627776) (hk : (aget m a).isSome = true) : sett mo m a e = (18, m) := by
  unfold sett; rw [chk_ok h (.inl hk), if_neg (by omega), if_pos hk]
theorem sett_full (h : ¬ badE a e.2.1 e.2.2) (h1 : 1 ≤ e.1 ∧ e.1 ≤ 1099511627776) (hk : (aget m a).isSome = false) (hl : mo ≤ m.length) : sett mo m a e = (20, m) := by
  unfold sett; rw [chk_full h hk hl, if_neg (by omega), if_neg (by rw [hk]; simp), if_pos (by decide)]
theorem sett_new (h : ¬ badE a e.2.1 e.2.2) (h1 : 1 ≤ e.1 ∧ e.1 ≤ 1099511627776) (hk : (aget m a).isSome = false) (hl : (m.length : Int) < mo) : sett mo m a e = (0, aput m a e) := by
  unfold sett; rw [chk_ok h (.inr hl), if_neg (by omega), if_neg (by rw [hk]; simp), if_neg (by decide)]
theorem RI.sett (h : RI mo m) : RI mo (B.sett mo m a e).2 := by
  by_cases q : chk mo m a e.2.1 e.2.2 = 11 ∨ e.1 < 1 ∨ 1099511627776 < e.1
  · rw [sett_err q]; exact h
  · have hb : ¬ badE a e.2.1 e.2.2 := fun hb => q (.inl (chk_bad hb))
    cases hk : (aget m a).isSome with
    | true => rw [sett_there hb (by omega) hk]; exact h
    | false =>
      by_cases hl : mo ≤ m.length
      · rw [sett_full hb (by omega) hk hl]; exact h
      · rw [sett_new hb (by omega) hk (by omega)]
        exact h.put hb (.inr (by omega)) (by omega)
theorem grant_no (h : (B.grant mo m a b t).1.2.2 ≠ 0) : (B.grant mo m a b t).1.2.1 = false ∧ (B.grant mo m a b t).2 = m := by
  by_cases h0 : chk mo m a b t = 0
  · by_cases q1 : (oldE m a).2.1 = b
    · rw [grant_same h0 q1] at h; exact absurd rfl h
    · by_cases q2 : (oldE m a).2.1 > b
      · rw [grant_old h0 q2]; exact ⟨rfl, rfl⟩
      · by_cases q3 : (oldE m a).1 = 1099511627776
        · rw [grant_long h0 q1 q2 q3]; exact ⟨rfl, rfl⟩
        · rw [grant_new h0 q1 q2 q3] at h; exact absurd rfl h
  · rw [grant_chk h0]; exact ⟨rfl, rfl⟩
structure GOk (m m' : EM) (a b : Int) (x : E3) (fr : Bool) : Prop where
  now : aget m' a = some x
  ep : (oldE m a).1 ≤ x.1
  bo : (oldE m a).2.1 ≤ x.2.1
  fr : fr = decide ((oldE m a).1 < x.1)
  bt : x.2.1 = b
  or : (m' = m) ∨ (m' = aput m a x ∧ (oldE m a).1 < x.1 ∧ (oldE m a).2.1 < x.2.1)
theorem RI.gok (h : RI mo m) (h0 : (B.grant mo m a b t).1.2.2 = 0) : GOk m (B.grant mo m a b t).2 a b (B.grant mo m a b t).1.1 (B.grant mo m a b t).1.2.1 := by
  have hc : chk mo m a b t = 0 := by
    by_cases hc : chk mo m a b t = 0
    · exact hc
    · rw [grant_chk hc] at h0; exact h0
  have hb : 1 ≤ b := by
    rcases chk_cases (mo := mo) (m := m) (a := a) (b := b) (t := t) with q | q | q
    · omega
    · omega
    · have := q.1; unfold badE at this; omega
  by_cases q1 : (oldE m a).2.1 = b
  · rw [grant_same hc q1]
    have hk : (aget m a).isSome = true := by
      cases hk : (aget m a).isSome with
      | true => rfl
      | false => rw [oldE_none hk] at q1; simp at q1; omega
    obtain ⟨x, h1, h2, _⟩ := h.some hk
    exact ⟨by rw [h2]; exact h1, Int.le_refl _, Int.le_refl _, by simp, q1, .inl rfl⟩
  · by_cases q2 : (oldE m a).2.1 > b
    · rw [grant_old hc q2] at h0; simp at h0
    · by_cases q3 : (oldE m a).1 = 1099511627776
      · rw [grant_long hc q1 q2 q3] at h0; simp at h0
      · rw [grant_new hc q1 q2 q3]
        exact ⟨by simp only; rw [aget_aput, if_pos rfl], by simp only [newE]; omega, by simp only [newE]; omega, (decide_eq_true (by simp only [newE]; omega)).symm, rfl, .inr ⟨rfl, by simp only [newE]; omega, by simp only [newE]; omega⟩⟩
theorem RI.sett_snoc {pre suf : EM} {x : Int × E3} (h : RI mo (pre ++ x :: suf)) : B.sett mo pre x.1 (x.2.1, x.2.2.1, x.2.2.2) = (0, pre ++ [x]) := by
  have hx : x ∈ pre ++ x :: suf := by simp
  have h1 := h.key x hx
  have h2 := h.ep x hx
  have h3 := h.good x hx
  have hlt : ∀ p ∈ pre, p.1 < x.1 := fun p hp => (List.pairwise_append.1 h.rise).2.2 p hp x (List.mem_cons_self ..)
  have hk : (aget pre x.1).isSome = false := by rw [aget_none.2 (fun p hp => by have := hlt p hp; omega)]; rfl
  have hl := h.len
  rw [List.length_append, List.length_cons] at hl
  rw [sett_new (e := (x.2.1, x.2.2.1, x.2.2.2)) (by unfold badE; simp only; omega) h2 hk (by omega), aput_last hlt]
end
def accR (pre : EM) : Int := (pre.map (fun p => 100 * p.1 + p.2.1)).sum
theorem one_of {α : Type} {pre suf : List α} {x y : α} (h : pre ++ x :: suf = [y]) : pre = [] ∧ x = y ∧ suf = [] := by
  cases pre with
  | nil => simp at h; exact ⟨rfl, h.1, h.2⟩
  | cons a l => simp at h
end Go.Proofs.Ytiffedgmageiaaa.B

/- Items that wait for their turn, by number: lists that rise. -/
import Derived.Test.YtcbfmbcmokafpaaMapM
import Derived.Test.YtcbfmbcmokafpaaRowsN
import Derived.Test.YtcbfmbcmokafpaaSafe
import Derived.Test.YtcbfmbcmokafpaaCode2
import Derived.Test.YtcbfmbcmokafpaaGrid
namespace Go.Proofs.Ytcbfmbcmokafpaa.B
set_option linter.unusedVariables false
set_option linter.unusedSimpArgs false
open Go.RowKit
abbrev iE : Int → Value := Value.int .i64

section
variable {β : Type} {m : List (Int × β)} {k : Int} {v : β}
theorem aget_none : aget m k = none ↔ ∀ p ∈ m, p.1 ≠ k := by
  unfold aget
  rw [Option.map_eq_none_iff, List.find?_eq_none]
  constructor
  · intro h p hp e; exact h p hp (by simpa using e)
  · intro h p hp e; exact h p hp (by simpa using e)
theorem aget_mem (h : aget m k = some v) : (k, v) ∈ m := by
  unfold aget at h
  obtain ⟨p, h1, rfl⟩ := Option.map_eq_some_iff.1 h
  have h2 := List.find?_some h1
  have h3 := List.mem_of_find?_eq_some h1
  have : p.1 = k := by simpa using h2
  subst this
  exact h3
theorem rise_inj (hr : m.Pairwise (fun a b => a.1 < b.1)) {p q : Int × β} (hp : p ∈ m) (hq : q ∈ m) (h : p.1 = q.1) : p = q := by
  induction m with
  | nil => cases hp
  | cons a m ih =>
    obtain ⟨h1, h2⟩ := List.pairwise_cons.1 hr
    rcases List.mem_cons.1 hp with e1 | hp' <;> rcases List.mem_cons.1 hq with e2 | hq'
    · rw [e1, e2]
    · have := h1 q hq'; rw [e1] at h; omega
    · have := h1 p hp'; rw [e2] at h; omega
    · exact ih h2 hp' hq'
theorem aget_of (hr : m.Pairwise (fun a b => a.1 < b.1)) (h : (k, v) ∈ m) : aget m k = some v := by
  cases hg : aget m k with
  | none => exact absurd rfl (aget_none.1 hg _ h)
  | some u =>
    have := rise_inj hr (aget_mem hg) h rfl
    exact congrArg some (congrArg Prod.snd this)
theorem adel_none (h : aget m k = none) : adel m k = m := by
  unfold adel
  rw [List.filter_eq_self]
  intro p hp
  have := aget_none.1 h p hp
  simpa using this
theorem mem_ains {x p : Int × β} : ∀ m : List (Int × β), p ∈ ains x m ↔ p = x ∨ p ∈ m
  | [] => by simp [ains]
  | y :: r => by
    unfold ains
    split
    · simp
    · rw [List.mem_cons, mem_ains r, List.mem_cons]
      constructor
      · rintro (h | h | h)
        · exact .inr (.inl h)
        · exact .inl h
        · exact .inr (.inr h)
      · rintro (h | h | h)
        · exact .inr (.inl h)
        · exact .inl h
        · exact .inr (.inr h)
theorem rise_ains {x : Int × β} : ∀ m : List (Int × β), m.Pairwise (fun a b => a.1 < b.1) → (∀ p ∈ m, p.1 ≠ x.1) → (ains x m).Pairwise (fun a b => a.1 < b.1)
  | [], _, _ => by simp [ains]
  | y :: r, hr, hx => by
    obtain ⟨h1, h2⟩ := List.pairwise_cons.1 hr
    have hy := hx y (List.mem_cons_self ..)
    unfold ains
    by_cases h : x.1 < y.1
    · rw [if_pos h]
      refine List.pairwise_cons.2 ⟨fun p hp => ?_, hr⟩
      rcases List.mem_cons.1 hp with rfl | hp
      · exact h
      · have := h1 p hp; omega
    · rw [if_neg h]
      refine List.pairwise_cons.2 ⟨fun p hp => ?_, rise_ains r h2 (fun p hp => hx p (List.mem_cons_of_mem _ hp))⟩
      rcases (mem_ains r).1 hp with rfl | hp
      · omega
      · exact h1 p hp
theorem aput_new (h : aget m k = none) : aput m k v = ains (k, v) m := by unfold aput; rw [adel_none h]
/-- Put at a place of a list that rises. -/
def insL (m : List (Int × β)) (j : Nat) (p : Int × β) : List (Int × β) := m.take j ++ p :: m.drop j
theorem insL_len {j : Nat} {p : Int × β} (h : j ≤ m.length) : (insL m j p).length = m.length + 1 := by
  unfold insL; rw [List.length_append, List.length_cons, List.length_take, List.length_drop]; omega
theorem insL_end {p : Int × β} : insL m m.length p = m ++ [p] := by unfold insL; rw [List.take_length, List.drop_length]
theorem insL_at {j : Nat} {p : Int × β} (h : j ≤ m.length) : (insL m j p)[j]? = some p := by
  unfold insL
  rw [List.getElem?_append_right (by rw [List.length_take]; omega), List.length_take, Nat.min_eq_left h, Nat.sub_self]; rfl
theorem insL_lo {i j : Nat} {p : Int × β} (h : j ≤ m.length) (hi : i < j) : (insL m j p)[i]? = m[i]? := by
  unfold insL
  rw [List.getElem?_append_left (by rw [List.length_take]; omega), List.getElem?_take, if_pos hi]
theorem insL_swap {j : Nat} {p u : Int × β} (h : j + 1 ≤ m.length) (hu : m[j]? = some u) : ((insL m (j + 1) p).set j p).set (j + 1) u = insL m j p := by
  have hlt : j < m.length := by omega
  apply List.ext_getElem?
  intro i
  rw [List.getElem?_set, List.getElem?_set, List.length_set, insL_len h]
  unfold insL
  by_cases h1 : i = j + 1
  · subst h1
    rw [if_pos rfl, if_pos (by omega), List.getElem?_append_right (by rw [List.length_take]; omega), List.length_take, Nat.min_eq_left (by omega), show j + 1 - j = 1 by omega, List.getElem?_cons_succ, List.getElem?_drop, Nat.add_zero, hu]
  · rw [if_neg (by omega)]
    by_cases h2 : i = j
    · subst h2
      rw [if_pos rfl, if_pos (by omega), List.getElem?_append_right (by rw [List.length_take]; omega), List.length_take, Nat.min_eq_left (by omega), Nat.sub_self]; rfl
    · rw [if_neg (by omega)]
      by_cases h3 : i < j
      · rw [List.getElem?_append_left (by rw [List.length_take]; omega), List.getElem?_append_left (by rw [List.length_take]; omega), List.getElem?_take, List.getElem?_take, if_pos (by omega), if_pos h3]
      · rw [List.getElem?_append_right (by rw [List.length_take]; omega), List.getElem?_append_right (by rw [List.length_take]; omega), List.length_take, List.length_take, Nat.min_eq_left (by omega), Nat.min_eq_left (by omega)]
        obtain ⟨q, rfl⟩ : ∃ q, i = j + 2 + q := ⟨i - (j + 2), by omega⟩
        rw [show j + 2 + q - (j + 1) = q + 1 by omega, show j + 2 + q - j = q + 2 by omega, List.getElem?_cons_succ, List.getElem?_cons_succ, List.getElem?_drop, List.getElem?_drop]
        congr 1; omega
theorem insL_ains {p : Int × β} : ∀ (m : List (Int × β)) (j : Nat), j ≤ m.length → (∀ i u, i < j → m[i]? = some u → ¬ p.1 < u.1) → (∀ u, m[j]? = some u → p.1 < u.1) → insL m j p = ains p m
  | [], j, hj, _, _ => by
    obtain rfl : j = 0 := by simpa using hj
    rfl
  | y :: r, 0, _, _, h2 => by
    have := h2 y rfl
    unfold ains
    rw [if_pos this]; rfl
  | y :: r, j + 1, hj, h1, h2 => by
    have := h1 0 y (by omega) rfl
    unfold ains
    rw [if_neg this]
    have ih := insL_ains (p := p) r j (by simpa using hj) (fun i u hi hu => h1 (i + 1) u (by omega) (by simpa using hu)) (fun u hu => h2 u (by simpa using hu))
    rw [← ih]; rfl
end

/-! ## what waits -/
structure HI (n mo : Int) (m : List (Int × Int)) : Prop where
  n0 : 0 ≤ n
  n1 : n ≤ 2199024255553
  mo0 : 1 ≤ mo
  mo1 : mo ≤ 256
  rise : m.Pairwise (fun a b => a.1 < b.1)
  lo : ∀ p ∈ m, n ≤ p.1
  hi : ∀ p ∈ m, p.1 < n + mo
  top : ∀ p ∈ m, p.1 ≤ 2199024255552
  vals : ∀ p ∈ m, fits p.2
theorem rise_len {β : Type} (b : Int) : ∀ (m : List (Int × β)) (n : Int), m.Pairwise (fun a b => a.1 < b.1) → (∀ p ∈ m, n ≤ p.1) → (∀ p ∈ m, p.1 < b) → (m.length : Int) ≤ max 0 (b - n)
  | [], n, _, _, _ => by simp; omega
  | p :: m, n, hr, hl, hh => by
    obtain ⟨h1, h2⟩ := List.pairwise_cons.1 hr
    have h3 := hl p (List.mem_cons_self ..)
    have h4 := hh p (List.mem_cons_self ..)
    have := rise_len b m (p.1 + 1) h2 (fun q hq => by have := h1 q hq; omega) (fun q hq => hh q (List.mem_cons_of_mem _ hq))
    rw [List.length_cons]
    omega
theorem HI.len {n mo : Int} {m : List (Int × Int)} (h : HI n mo m) : (m.length : Int) ≤ mo := by
  have := rise_len (n + mo) m n h.rise h.lo h.hi
  have := h.mo0
  omega
theorem HI.len2 {n mo : Int} {m : List (Int × Int)} (h : HI n mo m) : m.length ≤ 256 := by
  have := h.len; have := h.mo1; omega
theorem HI.new {n mo : Int} (h0 : 0 ≤ n) (h1 : n ≤ 1099511627776) (h2 : 1 ≤ mo) (h3 : mo ≤ 256) : HI n mo [] :=
  ⟨h0, by omega, h2, h3, List.Pairwise.nil, (fun _ h => by cases h), (fun _ h => by cases h), (fun _ h => by cases h), (fun _ h => by cases h)⟩
theorem HI.nil {n mo : Int} {m : List (Int × Int)} (h : HI n mo m) : HI n mo [] :=
  ⟨h.n0, h.n1, h.mo0, h.mo1, List.Pairwise.nil, (fun _ h => by cases h), (fun _ h => by cases h), (fun _ h => by cases h), (fun _ h => by cases h)⟩
theorem HI.put {n mo k v : Int} {m : List (Int × Int)} (h : HI n mo m) (h1 : n ≤ k) (h2 : k < n + mo) (h3 : k ≤ 2199024255552) (h4 : aget m k = none) (h5 : fits v) : HI n mo (aput m k v) := by
  rw [aput_new h4]
  refine ⟨h.n0, h.n1, h.mo0, h.mo1, rise_ains m h.rise (aget_none.1 h4), fun p hp => ?_, fun p hp => ?_, fun p hp => ?_, fun p hp => ?_⟩ <;> rcases (mem_ains m).1 hp with rfl | hp
  · exact h1
  · exact h.lo p hp
  · exact h2
  · exact h.hi p hp
  · exact h3
  · exact h.top p hp
  · exact h5
  · exact h.vals p hp
def offStep (n mo : Int) (st : List (Int × Int) × Int) (key x : Int) : List (Int × Int) × Int :=
  if key < n ∨ (aget st.1 key).isSome = true then st else if n + mo ≤ key then (st.1, st.2 + 1) else (aput st.1 key x, st.2)
def offT (n mo : Int) (m : List (Int × Int)) (first : Int) (xs : List Int) : Nat → List (Int × Int) × Int
  | 0 => (m, 0)
  | i + 1 => offStep n mo (offT n mo m first xs i) (first + i) (xs.getD i 0)
theorem offStep_old {n mo key x : Int} {st : List (Int × Int) × Int} (h : key < n ∨ (aget st.1 key).isSome = true) : offStep n mo st key x = st := if_pos h
theorem offStep_far {n mo key x : Int} {st : List (Int × Int) × Int} (h : ¬ (key < n ∨ (aget st.1 key).isSome = true)) (h2 : n + mo ≤ key) : offStep n mo st key x = (st.1, st.2 + 1) := by
  unfold offStep; rw [if_neg h, if_pos h2]
theorem offStep_new {n mo key x : Int} {st : List (Int × Int) × Int} (h : ¬ (key < n ∨ (aget st.1 key).isSome = true)) (h2 : ¬ n + mo ≤ key) : offStep n mo st key x = (aput st.1 key x, st.2) := by
  unfold offStep; rw [if_neg h, if_neg h2]
theorem HI.offT {n mo first : Int} {m : List (Int × Int)} {xs : List Int} (h : HI n mo m) (h1 : first ≤ 2199023255552) (hl : xs.length ≤ 1000000) (hx : ∀ x ∈ xs, fits x) : ∀ i, i ≤ xs.length → HI n mo (offT n mo m first xs i).1 ∧ 0 ≤ (B.offT n mo m first xs i).2 ∧ (B.offT n mo m first xs i).2 ≤ i
  | 0, _ => ⟨h, Int.le_refl _, Int.le_refl _⟩
  | i + 1, hi => by
    obtain ⟨ih, h2, h3⟩ := HI.offT h h1 hl hx i (by omega)
    unfold B.offT
    by_cases q : first + (i : Int) < n ∨ (aget (B.offT n mo m first xs i).1 (first + i)).isSome = true
    · rw [offStep_old q]; exact ⟨ih, h2, by omega⟩
    · by_cases q2 : n + mo ≤ first + (i : Int)
      · rw [offStep_far q q2]; exact ⟨ih, by simp only; omega, by simp only; omega⟩
      · rw [offStep_new q q2]
        refine ⟨ih.put (by omega) (by omega) (by omega) ?_ ?_, h2, by simp only; omega⟩
        · cases hg : aget (B.offT n mo m first xs i).1 (first + i) with
          | none => rfl
          | some u => exact absurd (.inr (by rw [hg]; rfl)) q
        · have hli : i < xs.length := by omega
          rw [List.getD_eq_getElem?_getD, List.getElem?_eq_getElem hli]
          exact hx _ (List.getElem_mem _)
def rel : Int → List (Int × Int) → List Int × Int × List (Int × Int)
  | n, [] => ([], n, [])
  | n, p :: r => if p.1 = n then (p.2 :: (rel (n + 1) r).1, (rel (n + 1) r).2) else ([], n, p :: r)
theorem rel_hit {n x : Int} {r : List (Int × Int)} : rel n ((n, x) :: r) = (x :: (rel (n + 1) r).1, (rel (n + 1) r).2) := by
  conv => lhs; unfold rel
  rw [if_pos rfl]
theorem rel_miss {n : Int} {m : List (Int × Int)} (h : ∀ p r, m = p :: r → p.1 ≠ n) : rel n m = ([], n, m) := by
  cases m with
  | nil => rfl
  | cons p r => unfold rel; rw [if_neg (h p r rfl)]
theorem HI.tail {n mo x : Int} {r : List (Int × Int)} (h : HI n mo ((n, x) :: r)) : HI (n + 1) mo r := by
  obtain ⟨h1, h2⟩ := List.pairwise_cons.1 h.rise
  have := h.top _ (List.mem_cons_self ..)
  exact ⟨by have := h.n0; omega, by simp only at this; omega, h.mo0, h.mo1, h2, fun p hp => by have := h1 p hp; simp only at this; omega, fun p hp => by have := h.hi p (List.mem_cons_of_mem _ hp); omega, fun p hp => h.top p (List.mem_cons_of_mem _ hp), fun p hp => h.vals p (List.mem_cons_of_mem _ hp)⟩
/-- Whether the next one is there. -/
theorem HI.first {n mo x : Int} {m : List (Int × Int)} (h : HI n mo m) (hg : aget m n = some x) : ∃ r, m = (n, x) :: r ∧ adel m n = r := by
  have hm := aget_mem hg
  cases m with
  | nil => cases hm
  | cons p r =>
    obtain ⟨h1, h2⟩ := List.pairwise_cons.1 h.rise
    have hp : p = (n, x) := by
      rcases List.mem_cons.1 hm with e | e
      · exact e.symm
      · have := h1 _ e
        have := h.lo p (List.mem_cons_self ..)
        simp only at *; omega
    subst hp
    refine ⟨r, rfl, ?_⟩
    unfold adel
    rw [List.filter_cons, if_neg (by simp), List.filter_eq_self]
    intro p hp
    have := h1 p hp
    simp only at this
    simp; omega
theorem HI.none {n : Int} {m : List (Int × Int)} (hg : aget m n = none) : rel n m = ([], n, m) :=
  rel_miss (fun p r e => aget_none.1 hg p (by rw [e]; exact List.mem_cons_self ..))
theorem HI.rel {mo : Int} : ∀ {m : List (Int × Int)} {n : Int}, HI n mo m → HI (rel n m).2.1 mo (B.rel n m).2.2 ∧ (∀ p ∈ (B.rel n m).2.2, (B.rel n m).2.1 < p.1) ∧ (B.rel n m).2.1 = n + (B.rel n m).1.length ∧ (B.rel n m).1.length ≤ m.length ∧ (∀ x ∈ (B.rel n m).1, fits x)
  | [], n, h => ⟨h, (fun _ h => by cases h), by simp [B.rel], by simp [B.rel], (fun _ h => by cases h)⟩
  | p :: r, n, h => by
    by_cases e : p.1 = n
    · obtain ⟨k, x⟩ := p
      simp only at e
      subst e
      obtain ⟨h1, h2, h3, h4, h5⟩ := HI.rel h.tail
      rw [rel_hit]
      refine ⟨h1, h2, by simp only [List.length_cons]; omega, by simp only [List.length_cons]; omega, fun y hy => ?_⟩
      rcases List.mem_cons.1 hy with rfl | hy
      · exact h.vals _ (List.mem_cons_self ..)
      · exact h5 y hy
    · have hm : B.rel n (p :: r) = ([], n, p :: r) := rel_miss (fun q s hq => by injection hq with hq _; subst hq; exact e)
      rw [hm]
      refine ⟨h, fun q hq => ?_, by simp, by simp, (fun _ h => by cases h)⟩
      have h0 := h.lo p (List.mem_cons_self ..)
      obtain ⟨h1, h2⟩ := List.pairwise_cons.1 h.rise
      rcases List.mem_cons.1 hq with rfl | hq
      · simp only; omega
      · have := h1 q hq; simp only; omega
def offer (n mo : Int) (m : List (Int × Int)) (first : Int) (xs : List Int) : List Int × Int × Int × List (Int × Int) :=
  if first < 0 ∨ 2199023255552 < first then ([], xs.length, n, m) else ((rel n (offT n mo m first xs xs.length).1).1, (offT n mo m first xs xs.length).2, (rel n (offT n mo m first xs xs.length).1).2.1, (rel n (offT n mo m first xs xs.length).1).2.2)
theorem offer_out {n mo first : Int} {m : List (Int × Int)} {xs : List Int} (h : first < 0 ∨ 2199023255552 < first) : offer n mo m first xs = ([], (xs.length : Int), n, m) := if_pos h
theorem offer_in {n mo first : Int} {m : List (Int × Int)} {xs : List Int} (h : ¬ (first < 0 ∨ 2199023255552 < first)) : offer n mo m first xs = ((rel n (offT n mo m first xs xs.length).1).1, (offT n mo m first xs xs.length).2, (rel n (offT n mo m first xs xs.length).1).2.1, (rel n (offT n mo m first xs xs.length).1).2.2) := if_neg h
theorem HI.offer {n mo first : Int} {m : List (Int × Int)} {xs : List Int} (h : HI n mo m) (hl : xs.length ≤ 1000000) (hx : ∀ x ∈ xs, fits x) :
    HI (offer n mo m first xs).2.2.1 mo (B.offer n mo m first xs).2.2.2 ∧ (∀ x ∈ (B.offer n mo m first xs).1, fits x) ∧ (B.offer n mo m first xs).1.length ≤ 256 ∧ 0 ≤ (B.offer n mo m first xs).2.1 ∧ (B.offer n mo m first xs).2.1 ≤ xs.length := by
  by_cases q : first < 0 ∨ 2199023255552 < first
  · rw [offer_out q]; exact ⟨h, (fun _ h => by cases h), by simp, by simp only; omega, Int.le_refl _⟩
  · rw [offer_in q]
    obtain ⟨h1, h2, h3⟩ := h.offT (first := first) (by omega) hl hx xs.length (Nat.le_refl _)
    obtain ⟨h4, _, _, h5, h6⟩ := h1.rel
    have := h1.len2
    exact ⟨h4, h6, by simp only; omega, h2, h3⟩
section
variable {P : Program} {ops : Array Oper} {C : World → Prop} {K : Regs → Prop} {r : Regs} {os : List Oper}
  {d : Nat} {ty t t' : TypeId} {pos : String} {aft : Array Edge} {g : Option (Nat × Bool)} {x y : Operand}
theorem Q.nilCheck {a : Addr} (hx : ev r x = .pointer (some a)) (hw : wantR ⟨some d, .nilCheck x, ty, pos, aft, g⟩ ops r = true)
    (h : WQ P ops C K os (upd r d (.pointer (some a)))) : WQ P ops C K (⟨some d, .nilCheck x, ty, pos, aft, g⟩ :: os) r := by
  refine Q.val hw (fun w hC => ?_) h
  simp only [execOp, hx, Sem.run_pure]
end
section
variable {P : Program} {ops : Array Oper} {Q : Exit → Regs → World → Prop} {r : Regs} {w : World} {os : List Oper}
  {d : Nat} {ty t t' : TypeId} {pos : String} {aft : Array Edge} {g : Option (Nat × Bool)} {x y : Operand}
theorem S.eqlNilT {e : TypeId} (ht : P.underlying t = some (.pointer e)) (hx : ev r x = .pointer none) (hy : ev r y = .pointer none) (hw : wantR ⟨some d, .binOp .eql t x y t', ty, pos, aft, g⟩ ops r = true)
    (h : WS P ops Q os (upd r d (.bool true)) w) : WS P ops Q (⟨some d, .binOp .eql t x y t', ty, pos, aft, g⟩ :: os) r w := by
  refine S.val hw ?_ h
  have : eqGuard .eql t x y (.pointer none) (.pointer none) = pure () := by unfold eqGuard; rfl
  have hp : P.underlying t = some (.pointer (P.pointee t)) := by simp [Program.pointee, ht]
  simp only [execOp, hx, hy, this, pure_bind, Sem.run_bind, run_eql_pointer_nil w t none hp, Result.andThen_ok, Option.isNone_none, Sem.run_pure]
end
end Go.Proofs.Ytcbfmbcmokafpaa.B

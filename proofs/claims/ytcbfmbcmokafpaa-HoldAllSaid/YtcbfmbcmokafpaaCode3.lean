/- One owned row behind another; what rows of numbers and texts that are read tell. -/
import Derived.Test.YtcbfmbcmokafpaaCode2
namespace Go.Proofs.Ytcbfmbcmokafpaa.B
set_option linter.unusedVariables false
set_option linter.unusedSimpArgs false
open Go.RowKit
section
variable {P : Program} {ops : Array Oper} {Q : Exit → Regs → World → Prop} {r : Regs} {w : World} {os : List Oper}
  {d : Nat} {ty t t' : TypeId} {pos : String} {aft : Array Edge} {g : Option (Nat × Bool)} {R : Kn} {L : List HP} {x y : Operand}
theorem Src.own {α : Type} {enc : α → List Value} {e : TypeId} {n : Nat} {v : Value} {ys : List α} (s : St w R (Ow e enc n v ys :: L)) : Src P n w v ys.length (ys.flatMap enc) := by
  obtain ⟨h, ⟨hl, hv⟩, hle, _⟩ := s.see
  rcases hv with ⟨rfl, h0⟩ | ⟨b, cap, cur, rfl, hb, h1, h2, h3, ht⟩
  · obtain rfl : ys = [] := List.eq_nil_of_length_eq_zero h0
    exact Src.nil
  · refine Src.slice hl ?_
    intro j u hu
    rw [Addr.add_none]
    refine cell_of_heap (hle _ _ hb) ?_
    rw [← ht, List.getElem?_take] at hu
    split at hu
    · rw [Nat.zero_add, ← Array.getElem?_toList]; exact hu
    · cases hu
/-- 'append' of another row of one's own, which is forgotten. -/
theorem S.appendOO {α : Type} {enc : α → List Value} {t e : TypeId} {z : Value} {n b i : Nat} {x y : Operand} {v v2 : Value} {xs ys : List α} (s : St w R (Ow e enc n v2 ys :: L)) (hi : L[i]? = some (Ow e enc n v xs))
    (ht : P.underlying t = some (.slice e)) (hI : TI P e z n b) (hzs : z.cells.size = n) (hn : Nat.blt 0 n = true)
    (hx : ev r x = v) (hy : ev r y = v2) (h1 : ∀ x ∈ ys, ∀ u ∈ enc x, u.oneCell' = true) (hb : (xs.length + ys.length) * b ≤ 140737488355328 ∧ xs.length + ys.length ≤ 140737488355328)
    (hw : wantR ⟨some d, .call { callee := .builtin .append, args := #[x, y], argTypes := #[t, t] }, ty, pos, aft, g⟩ ops r = true)
    (h : ∀ v' w', St w' R (L.set i (Ow e enc n v' (xs ++ ys))) → WS P ops Q os (upd r d v') w') :
    WS P ops Q (⟨some d, .call { callee := .builtin .append, args := #[x, y], argTypes := #[t, t] }, ty, pos, aft, g⟩ :: os) r w :=
  S.appendOw (i := i + 1) s (by simpa using hi) ht ht rfl hI hzs hn hx hy (Src.own s) h1 hb hw fun v' w' s' => h v' w' s'.drop
end

theorem uB_one (n : Nat) : uB [(n : Int)] = ub n := by unfold uB; simp
theorem beq_dec {p q : Prop} [Decidable p] [Decidable q] (h : p ↔ q) : (!(decide p == decide q)) = false := by
  by_cases hp : p
  · simp [hp, h.1 hp]
  · have hq : ¬ q := fun hq => hp (h.2 hq)
    simp [hp, hq]

/-! ## rows that are read -/
def tG {α β : Type} [DecidableEq β] (f : List Int → Int → β × List Int × Int) (g : α → β) (as : List α) (s : Bool × List Int × Int) : Bool × List Int × Int :=
  as.foldl (fun s a => (s.1 && decide ((f s.2.1 s.2.2).1 = g a), (f s.2.1 s.2.2).2)) s
structure Reads {α β : Type} (f : List Int → Int → β × List Int × Int) (g : α → β) (enc : α → List Int) (ok : α → Prop) : Prop where
  full : ∀ a rest, ok a → f (enc a ++ rest) 0 = (g a, rest, 0)
  cut : ∀ a m, ok a → m < (enc a).length → (f ((enc a).take m) 0).2.2 = 15
  err : ∀ xs e, e ≠ 0 → (f xs e).2.2 = e
section
variable {α β : Type} [DecidableEq β] {f : List Int → Int → β × List Int × Int} {g : α → β} {enc : α → List Int} {ok : α → Prop}
theorem tG_succ {as : List α} {s : Bool × List Int × Int} {i : Nat} {a : α} (h : as[i]? = some a) {o : Bool} {ys : List Int} {e : Int} (hs : tG f g (as.take i) s = (o, ys, e)) :
    tG f g (as.take (i + 1)) s = (o && decide ((f ys e).1 = g a), (f ys e).2) := by
  unfold tG at hs ⊢
  rw [List.take_add_one, h, List.foldl_append, hs]; rfl
theorem tG_err (R : Reads f g enc ok) : ∀ (as : List α) (s : Bool × List Int × Int), s.2.2 ≠ 0 → (tG f g as s).2.2 = s.2.2
  | [], _, _ => rfl
  | a :: as, s, h => by
    have h1 := R.err s.2.1 s.2.2 h
    show (tG f g as (s.1 && decide ((f s.2.1 s.2.2).1 = g a), (f s.2.1 s.2.2).2)).2.2 = _
    rw [tG_err R as _ (by show (f s.2.1 s.2.2).2.2 ≠ 0; rw [h1]; exact h)]
    exact h1
theorem tG_full (R : Reads f g enc ok) : ∀ (as : List α) (rest : List Int), (∀ a ∈ as, ok a) → ∀ o, tG f g as (o, as.flatMap enc ++ rest, 0) = (o, rest, 0)
  | [], _, _, _ => rfl
  | a :: as, rest, h, o => by
    rw [List.flatMap_cons, List.append_assoc]
    show tG f g as (o && decide ((f (enc a ++ (as.flatMap enc ++ rest)) 0).1 = g a), (f (enc a ++ (as.flatMap enc ++ rest)) 0).2) = _
    rw [R.full a _ (h a (List.mem_cons_self ..))]
    simp only [decide_true, Bool.and_true]
    exact tG_full R as rest (fun b hb => h b (List.mem_cons_of_mem _ hb)) o
theorem tG_cut (R : Reads f g enc ok) : ∀ (as : List α) (m : Nat), (∀ a ∈ as, ok a) → m < (as.flatMap enc).length → ∀ o, (tG f g as (o, (as.flatMap enc).take m, 0)).2.2 = 15
  | [], m, _, h, _ => by simp at h
  | a :: as, m, h, hm, o => by
    have hok := h a (List.mem_cons_self ..)
    rw [List.flatMap_cons] at hm ⊢
    rw [List.length_append] at hm
    by_cases hc : m < (enc a).length
    · rw [List.take_append_of_le_length (by omega)]
      have h1 := R.cut a m hok hc
      show (tG f g as (o && decide ((f ((enc a).take m) 0).1 = g a), (f ((enc a).take m) 0).2)).2.2 = 15
      rw [tG_err R as _ (by show (f ((enc a).take m) 0).2.2 ≠ 0; rw [h1]; decide)]
      exact h1
    · rw [List.take_append, List.take_of_length_le (by omega)]
      show (tG f g as (o && decide ((f (enc a ++ (as.flatMap enc).take (m - (enc a).length)) 0).1 = g a), (f (enc a ++ (as.flatMap enc).take (m - (enc a).length)) 0).2)).2.2 = 15
      rw [R.full a _ hok]
      exact tG_cut R as (m - (enc a).length) (fun b hb => h b (List.mem_cons_of_mem _ hb)) (by omega) _
end
def fI (xs : List Int) (e : Int) : Int × List Int × Int := (unturn (rdU xs e).1, (rdU xs e).2)
def fT (xs : List Int) (e : Int) : ByteArray × List Int × Int := rdT xs e 300
theorem rdU_full {n : Nat} (h : n < 18446744073709551616) (rest : List Int) : rdU (ub n ++ rest) 0 = ((n : Int), rest, 0) := by
  have := pn_ub n 0 rest (by show (n : Int) * 1 < _; omega) (by decide) (fun h => absurd h (by decide))
  rw [rdU_ok (by rw [this]), this]
theorem rdU_cut {n m : Nat} (h : n < 18446744073709551616) (hm : m < (ub n).length) : rdU ((ub n).take m) 0 = (0, (ub n).take m, 15) := by
  have := pn_cut n 0 m (by show (n : Int) * 1 < _; omega) (by decide) (fun h => absurd h (by decide)) hm
  rw [rdU_bad (by rw [this]; decide), this]
theorem rdU_e {xs : List Int} {e : Int} (h : e ≠ 0) : (rdU xs e).2.2 = e := by rw [rdU_err h]
theorem readsU : Reads rdU (fun a : Int => a) (fun a => ub a.toNat) (fun a => 0 ≤ a ∧ a < 18446744073709551616) where
  full a rest h := by rw [rdU_full (by omega), Int.toNat_of_nonneg h.1]
  cut a m h hm := by rw [rdU_cut (by omega) hm]
  err xs e h := rdU_e h
theorem readsI : Reads fI (fun a : Int => a) (fun a => ub (turn a).toNat) (fun a => -9223372036854775808 ≤ a ∧ a ≤ 9223372036854775807) where
  full a rest h := by
    have := turn_u64 h
    unfold fI
    rw [rdU_full (by omega), Int.toNat_of_nonneg this.1, unturn_turn]
  cut a m h hm := by
    have := turn_u64 h
    unfold fI
    rw [rdU_cut (by omega) hm]
  err xs e h := rdU_e h
theorem rdC_e {xs : List Int} {e m : Int} (h : e ≠ 0) : rdC xs e m = (0, xs, e) := by
  rw [rdC_ok (by rw [rdU_err h]; show ¬ max m 0 < 0; omega), rdU_err h]
theorem readsT : Reads fT (fun a : ByteArray => a) (fun s => ub s.size ++ sB s) (fun s => s.size ≤ 300) where
  full a rest h := by
    unfold fT
    have h1 : rdC ((ub a.size ++ sB a) ++ rest) 0 300 = ((a.size : Int), sB a ++ rest, 0) := by
      rw [List.append_assoc]
      have := rdU_full (n := a.size) (by omega) (sB a ++ rest)
      rw [rdC_ok (by rw [this]; show ¬ (max 300 0 : Int) < a.size; omega), this]
    rw [rdT_ok (by rw [h1]) (by rw [h1]; show ¬ (a.size : Int) > ((sB a ++ rest).length : Int); rw [List.length_append, sB_len]; omega), h1]
    show (bS ((sB a ++ rest).take ((a.size : Int)).toNat), (sB a ++ rest).drop ((a.size : Int)).toNat, (0 : Int)) = _
    rw [Int.toNat_natCast, ← sB_len, List.take_left, List.drop_left, bS_sB]
  cut a m h hm := by
    unfold fT
    rw [List.length_append] at hm
    by_cases hc : m < (ub a.size).length
    · rw [List.take_append_of_le_length (by omega)]
      have h1 := rdU_cut (n := a.size) (m := m) (by omega) hc
      have h2 : rdC ((ub a.size).take m) 0 300 = (0, (ub a.size).take m, 15) := by
        rw [rdC_ok (by rw [h1]; show ¬ (max 300 0 : Int) < 0; omega), h1]
      rw [rdT_err (by rw [h2]; exact (by decide : (15 : Int) ≠ 0)), h2]
    · rw [List.take_append, List.take_of_length_le (by omega)]
      have h1 := rdU_full (n := a.size) (by omega) ((sB a).take (m - (ub a.size).length))
      have h2 : rdC (ub a.size ++ (sB a).take (m - (ub a.size).length)) 0 300 = ((a.size : Int), (sB a).take (m - (ub a.size).length), 0) := by
        rw [rdC_ok (by rw [h1]; show ¬ (max 300 0 : Int) < a.size; omega), h1]
      rw [rdT_end (by rw [h2]) (by rw [h2]; show (a.size : Int) > (((sB a).take (m - (ub a.size).length)).length : Int); rw [List.length_take, sB_len] at *; omega)]
  err xs e h := by
    unfold fT
    rw [rdT_err (by rw [rdC_e h]; exact h), rdC_e h]
/-- What a reader of all tells. -/
def tA (a b : List Int) (c : List ByteArray) (s : Bool × List Int × Int) : Bool × List Int × Int := tG fT (fun a => a) c (tG fI (fun a => a) b (tG rdU (fun a => a) a s))
def tok (s : Bool × List Int × Int) : Bool := decide (s.2.2 = 0 ∧ s.2.1.length = 0 ∧ s.1 = true)
theorem tA_full {a b : List Int} {c : List ByteArray} (ha : okU a) (hb : okI b) (hc : ∀ s ∈ c, s.size ≤ 300) : tA a b c (true, uB a ++ iB b ++ tB c, 0) = (true, [], 0) := by
  unfold tA uB iB tB
  rw [List.append_assoc, tG_full readsU a _ ha, tG_full readsI b _ hb]
  have := tG_full readsT c [] hc true
  rw [List.append_nil] at this
  exact this
theorem tA_cut {a b : List Int} {c : List ByteArray} (ha : okU a) (hb : okI b) (hc : ∀ s ∈ c, s.size ≤ 300) {m : Nat} (hm : m < (uB a ++ iB b ++ tB c).length) : (tA a b c (true, (uB a ++ iB b ++ tB c).take m, 0)).2.2 = 15 := by
  rw [List.length_append, List.length_append] at hm
  rw [List.append_assoc]
  unfold tA
  by_cases h1 : m < (uB a).length
  · rw [List.take_append_of_le_length (by omega)]
    have := tG_cut readsU a m ha h1 true
    rw [tG_err readsT c _ (by rw [tG_err readsI b _ (by rw [show uB a = a.flatMap fun x => ub x.toNat from rfl, this]; decide), show uB a = a.flatMap fun x => ub x.toNat from rfl, this]; decide), tG_err readsI b _ (by rw [show uB a = a.flatMap fun x => ub x.toNat from rfl, this]; decide)]
    exact this
  · rw [List.take_append, List.take_of_length_le (by omega)]
    have e1 := tG_full readsU a (List.take (m - (uB a).length) (iB b ++ tB c)) ha true
    rw [show uB a = a.flatMap fun x => ub x.toNat from rfl] at h1 hm ⊢
    rw [show uB a = a.flatMap fun x => ub x.toNat from rfl] at e1
    rw [e1]
    generalize hk : m - (a.flatMap fun x => ub x.toNat).length = k
    have hk2 : k < (iB b).length + (tB c).length := by omega
    by_cases h2 : k < (iB b).length
    · rw [List.take_append_of_le_length (by omega)]
      have := tG_cut readsI b k hb h2 true
      rw [tG_err readsT c _ (by rw [show iB b = b.flatMap fun x => ub (turn x).toNat from rfl, this]; decide)]
      exact this
    · rw [List.take_append, List.take_of_length_le (by omega)]
      have e2 := tG_full readsI b (List.take (k - (iB b).length) (tB c)) hb true
      rw [show iB b = b.flatMap fun x => ub (turn x).toNat from rfl] at h2 hk2 ⊢
      rw [show iB b = b.flatMap fun x => ub (turn x).toNat from rfl] at e2
      rw [e2]
      exact tG_cut readsT c _ hc (by show _ < (tB c).length; omega) true
end Go.Proofs.Ytcbfmbcmokafpaa.B

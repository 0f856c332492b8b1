/- Texts in parts; digits; rows that are turned round. -/
import Derived.Test.YtnfideifgegijaaWide
import Derived.Laws.Slices
namespace Go.Proofs.Ytnfideifgegijaa.B
set_option linter.unusedVariables false
set_option linter.unusedSimpArgs false

theorem sB_extract (s : ByteArray) (i j : Nat) : sB (s.extract i j) = ((sB s).take j).drop i := by
  unfold sB
  rw [ByteArray.data_extract, Array.toList_extract, List.extract_eq_take_drop, List.map_take, List.map_drop, List.drop_take]
theorem sB_append (s t : ByteArray) : sB (s ++ t) = sB s ++ sB t := by
  unfold sB
  rw [ByteArray.data_append, Array.toList_append, List.map_append]
theorem sB_bS {xs : List Int} (h : ∀ x ∈ xs, 0 ≤ x ∧ x < 256) : sB (bS xs) = xs := by
  unfold sB
  rw [bS_list, List.map_map]
  conv => rhs; rw [← List.map_id xs]
  apply List.map_congr_left
  intro x hx
  have := h x hx
  simp only [Function.comp, id]
  rw [UInt8.toNat_ofNat']
  omega
theorem bS_eq {xs : List Int} {s : ByteArray} (h : ∀ x ∈ xs, 0 ≤ x ∧ x < 256) : bS xs = s ↔ xs = sB s := by
  constructor
  · rintro rfl; exact (sB_bS h).symm
  · rintro rfl; exact bS_sB s
section
variable {P : Program} {ops : Array Oper} {Q : Exit → Regs → World → Prop} {r : Regs} {w : World} {os : List Oper}
  {d : Nat} {ty t t' : TypeId} {pos : String} {aft : Array Edge} {g : Option (Nat × Bool)} {R : Kn} {L : List HP} {x y : Operand}
theorem S.strLo {s : ByteArray} {k : IntKind} {l : Int} (ht : P.underlying t = some .string) (hx : ev r x = .string s) (hy : ev r y = .int k l) (h0 : 0 ≤ l ∧ l ≤ s.size) (hw : wantR ⟨some d, .slice t x (some y) none none, ty, pos, aft, g⟩ ops r = true)
    (h : WS P ops Q os (upd r d (.string (s.extract l.toNat s.size))) w) : WS P ops Q (⟨some d, .slice t x (some y) none none, ty, pos, aft, g⟩ :: os) r w := by
  refine S.val hw ?_ h
  simp only [execOp, hx, hy, Option.map_some, Option.map_none, Instr.sliceAt, Sem.run_bind, run_underlying ht, Result.andThen_ok, run_slice_string_l w t s ht k l h0.1 h0.2, Result.andThen_ok, Sem.run_pure]
theorem S.strHi {s : ByteArray} {k : IntKind} {l : Int} (ht : P.underlying t = some .string) (hx : ev r x = .string s) (hy : ev r y = .int k l) (h0 : 0 ≤ l ∧ l ≤ s.size) (hw : wantR ⟨some d, .slice t x none (some y) none, ty, pos, aft, g⟩ ops r = true)
    (h : WS P ops Q os (upd r d (.string (s.extract 0 l.toNat))) w) : WS P ops Q (⟨some d, .slice t x none (some y) none, ty, pos, aft, g⟩ :: os) r w := by
  refine S.val hw ?_ h
  simp only [execOp, hx, hy, Option.map_some, Option.map_none, Instr.sliceAt, Sem.run_bind, run_underlying ht, Result.andThen_ok, run_slice_string_h w t s ht k l h0.1 h0.2, Result.andThen_ok, Sem.run_pure]
theorem sB_at {s : ByteArray} {i : Nat} {u : Int} (h : (sB s)[i]? = some u) : ∃ b : UInt8, s[i]? = some b ∧ (b.toNat : Int) = u := by
  unfold sB at h
  rw [List.getElem?_map] at h
  obtain ⟨b, h1, h2⟩ := Option.map_eq_some_iff.1 h
  refine ⟨b, ?_, h2⟩
  rw [Array.getElem?_toList] at h1
  obtain ⟨h3, h4⟩ := Array.getElem?_eq_some_iff.1 h1
  show s[i]? = some b
  rw [getElem?_pos s i h3]
  exact congrArg some h4
theorem S.indexB {s : ByteArray} {k : IntKind} {i u : Int} (ht : P.underlying t = some .string) (hx : ev r x = .string s) (hy : ev r y = .int k i) (hi : 0 ≤ i) (hu : (sB s)[i.toNat]? = some u)
    (hw : wantR ⟨some d, .index t x y, ty, pos, aft, g⟩ ops r = true)
    (h : WS P ops Q os (upd r d (.int .u8 u)) w) : WS P ops Q (⟨some d, .index t x y, ty, pos, aft, g⟩ :: os) r w := by
  obtain ⟨b, h1, rfl⟩ := sB_at hu
  exact S.indexStr ht hx hy hi h1 hw h
theorem S.addStr {a b : ByteArray} (hx : ev r x = .string a) (hy : ev r y = .string b) (hs : (a.size : Int) + b.size ≤ 9223372036854775807) (hw : wantR ⟨some d, .binOp .add t x y t', ty, pos, aft, g⟩ ops r = true)
    (h : WS P ops Q os (upd r d (.string (a ++ b))) w) : WS P ops Q (⟨some d, .binOp .add t x y t', ty, pos, aft, g⟩ :: os) r w := by
  refine S.val hw ?_ h
  have : eqGuard .add t x y (.string a) (.string b) = pure () := by unfold eqGuard; rfl
  have h2 : ¬ (((a.size + b.size : Nat) : Int) > IntKind.i64.max) := by
    have : IntKind.i64.max = 9223372036854775807 := rfl
    omega
  simp only [execOp, hx, hy, this, pure_bind, binOp, Op.stringOp, if_neg h2, Sem.run_bind, Sem.run_pure, Result.andThen_ok]
theorem S.neqStr {a b : ByteArray} (hx : ev r x = .string a) (hy : ev r y = .string b) (hw : wantR ⟨some d, .binOp .neq t x y t', ty, pos, aft, g⟩ ops r = true)
    (h : WS P ops Q os (upd r d (.bool (decide (a ≠ b)))) w) : WS P ops Q (⟨some d, .binOp .neq t x y t', ty, pos, aft, g⟩ :: os) r w := by
  refine S.val hw ?_ h
  have : eqGuard .neq t x y (.string a) (.string b) = pure () := by unfold eqGuard; rfl
  have e : (!(a.toList == b.toList)) = decide (a ≠ b) := by
    rw [ByteArray.toList_eq, ByteArray.toList_eq]
    by_cases h : a = b
    · subst h; simp
    · have : a.data.toList ≠ b.data.toList := fun e => h (by cases a; cases b; rw [Array.toList_inj] at e; cases e; rfl)
      rw [decide_eq_true h, beq_eq_false_iff_ne.2 this]; rfl
  simp only [execOp, hx, hy, this, pure_bind, binOp, Op.stringOp, e, Sem.run_bind, Sem.run_pure, Result.andThen_ok]
end
section
variable {P : Program} {ops : Array Oper} {C : World → Prop} {K : Regs → Prop} {r : Regs} {os : List Oper}
  {d : Nat} {ty t : TypeId} {pos : String} {aft : Array Edge} {g : Option (Nat × Bool)} {x y : Operand}
theorem Q.indexB {s : ByteArray} {k : IntKind} {i u : Int} (ht : P.underlying t = some .string) (hx : ev r x = .string s) (hy : ev r y = .int k i) (hi : 0 ≤ i) (hu : (sB s)[i.toNat]? = some u)
    (hw : wantR ⟨some d, .index t x y, ty, pos, aft, g⟩ ops r = true)
    (h : WQ P ops C K os (upd r d (.int .u8 u))) : WQ P ops C K (⟨some d, .index t x y, ty, pos, aft, g⟩ :: os) r := by
  obtain ⟨b, h1, rfl⟩ := sB_at hu
  refine Q.val hw (fun w hC => ?_) h
  simp only [execOp, hx, hy, Instr.index, asIntOf, pure_bind, Sem.run_bind, run_underlying ht, Result.andThen_ok, Sem.run_pure, if_pos hi, h1]
end

section
variable {P : Program} {ops : Array Oper} {C : World → Prop} {K : Regs → Prop} {r : Regs} {os : List Oper}
  {d : Nat} {ty t : TypeId} {pos : String} {aft : Array Edge} {g : Option (Nat × Bool)} {x y : Operand}
/-- An element's address of a row of which it is known where it lies. -/
theorem Q.indexOwP {e : TypeId} {a : Addr} {n c : Nat} {j : Int} {k : IntKind} {z : Value} {b : Nat} (ht : P.underlying t = some (.slice e)) (hz : TI P e z 1 b)
    (hx : ev r x = .slice (some a) n c) (hy : ev r y = .int k j) (hb : 0 ≤ j ∧ j < n) (hw : wantR ⟨some d, .indexAddr t x y, ty, pos, aft, g⟩ ops r = true)
    (h : WQ P ops C K os (upd r d (.pointer (some (elAddr (.slice (some a) n c) j.toNat))))) : WQ P ops C K (⟨some d, .indexAddr t x y, ty, pos, aft, g⟩ :: os) r := by
  refine Q.val hw (fun w s => ?_) h
  simp only [execOp, hx, hy, Instr.indexAt, asIntOf, pure_bind, Sem.run_bind, run_underlying ht, Result.andThen_ok, Sem.run_pure, if_pos hb, run_size hz, Nat.mul_one, elAddr]
theorem St.rowAddr {w : World} {R : Kn} {L : List HP} {α : Type} {enc : α → List Value} {n : Nat} {e : TypeId} {v : Value} {xs : List α} (s : St w R (Ow e enc n v xs :: L)) (h0 : xs ≠ []) : ∃ a c, v = .slice (some a) xs.length c := by
  obtain ⟨b, cap, cur, rfl, _⟩ := s.openRow h0
  exact ⟨_, _, rfl⟩
end
/-! ## digits -/
/-- A number's digits, the lowest first. -/
def dl (n : Nat) : List Int := if h : n < 10 then [48 + (n : Int)] else (48 + (n : Int) % 10) :: dl (n / 10)
termination_by n
decreasing_by omega
theorem dl_lo {n : Nat} (h : n < 10) : dl n = [48 + (n : Int)] := by rw [dl, dif_pos h]
theorem dl_hi {n : Nat} (h : ¬ n < 10) : dl n = (48 + (n : Int) % 10) :: dl (n / 10) := by rw [dl, dif_neg h]
theorem dl_ne (n : Nat) : dl n ≠ [] := by
  by_cases h : n < 10
  · rw [dl_lo h]; simp
  · rw [dl_hi h]; simp
theorem dl_digit : ∀ n, ∀ x ∈ dl n, 48 ≤ x ∧ x ≤ 57 := by
  intro n
  induction n using Nat.strongRecOn with
  | _ n ih =>
    intro x hx
    by_cases h : n < 10
    · rw [dl_lo h, List.mem_singleton] at hx; omega
    · rw [dl_hi h] at hx
      rcases List.mem_cons.1 hx with rfl | hx
      · omega
      · exact ih (n / 10) (by omega) x hx
theorem dl_len : ∀ (k n : Nat), n < 10 ^ (k + 1) → (dl n).length ≤ k + 1
  | 0, n, h => by rw [dl_lo (by simpa using h)]; simp
  | k + 1, n, h => by
    by_cases h1 : n < 10
    · rw [dl_lo h1]; simp
    · rw [dl_hi h1, List.length_cons]
      have := dl_len k (n / 10) (by rw [Nat.pow_succ] at h; omega)
      omega
/-- .. for whoever reckons it. -/
def low : Nat → Nat → List Int | 0, _ => [] | f + 1, n => if n < 10 then [48 + (n : Int)] else (48 + (n : Int) % 10) :: low f (n / 10)
theorem dl_low : ∀ (f n : Nat), n < 10 ^ (f + 1) → dl n = low (f + 1) n
  | 0, n, h => by rw [dl_lo (by simpa using h), low, if_pos (by simpa using h)]
  | f + 1, n, h => by
    by_cases h1 : n < 10
    · rw [dl_lo h1, low, if_pos h1]
    · rw [dl_hi h1, low, if_neg h1, dl_low f (n / 10) (by rw [Nat.pow_succ] at h; omega)]
/-- A number's text. -/
def txt (z : Int) : List Int := if z < 0 then 45 :: (dl z.natAbs).reverse else (dl z.natAbs).reverse
theorem txt_byte (z : Int) : ∀ x ∈ txt z, 0 ≤ x ∧ x < 256 := by
  intro x hx
  have : x = 45 ∨ x ∈ dl z.natAbs := by
    unfold txt at hx
    split at hx
    · rcases List.mem_cons.1 hx with h | h
      · exact .inl h
      · exact .inr (List.mem_reverse.1 h)
    · exact .inr (List.mem_reverse.1 hx)
  rcases this with rfl | h
  · omega
  · have := dl_digit _ x h; omega
/-- What is left while digits are told. -/
def Tv (n m : Nat) (out : List Int) : Prop := (m = 0 ∧ out = dl n) ∨ (out ++ dl m = dl n ∧ (m ≠ 0 ∨ out = []))
theorem Tv.start (n : Nat) : Tv n n [] := .inr ⟨rfl, .inr rfl⟩
theorem Tv.len {n m : Nat} {out : List Int} (h : Tv n m out) : out.length ≤ (dl n).length := by
  rcases h with ⟨_, rfl⟩ | ⟨h, _⟩
  · exact Nat.le_refl _
  · rw [← h, List.length_append]; omega
theorem Tv.step {n m : Nat} {out : List Int} (h : Tv n m out) (hc : m ≠ 0 ∨ out.length = 0) : Tv n (m / 10) (out ++ [48 + (m : Int) % 10]) := by
  have h1 : out ++ dl m = dl n := by
    rcases h with ⟨h1, h2⟩ | ⟨h1, _⟩
    · exfalso
      rcases hc with hc | hc
      · exact hc h1
      · exact dl_ne n (h2 ▸ List.eq_nil_of_length_eq_zero hc)
    · exact h1
  by_cases h2 : m < 10
  · rw [dl_lo h2] at h1
    exact .inl ⟨by omega, by rw [← h1, show (m : Int) % 10 = m by omega]⟩
  · rw [dl_hi h2] at h1
    exact .inr ⟨by rw [List.append_assoc]; exact h1, .inl (by omega)⟩
theorem Tv.fin {n m : Nat} {out : List Int} (h : Tv n m out) (hc : m = 0) (ho : out.length ≠ 0) : out = dl n := by
  rcases h with ⟨_, h⟩ | ⟨_, h | h⟩
  · exact h
  · exact absurd hc h
  · exact absurd (by rw [h]; rfl) ho

theorem text_step {h l : Int} {n : Nat} {out : List Int} (hh : 0 ≤ h ∧ h ≤ 9223372036854775808) (hl : 0 ≤ l ∧ l < 18446744073709551616) (hT : Tv n (h * 18446744073709551616 + l).toNat out) (hc : h ≠ 0 ∨ l ≠ 0 ∨ out.length = 0) :
    Tv n (h / 10 * 18446744073709551616 + (h % 10 * 18446744073709551616 + l) / 10).toNat (out ++ [48 + (h % 10 * 18446744073709551616 + l) % 10]) := by
  have h1 := hT.step (by omega)
  have e1 : (h * 18446744073709551616 + l).toNat / 10 = (h / 10 * 18446744073709551616 + (h % 10 * 18446744073709551616 + l) / 10).toNat := by omega
  have e2 : (((h * 18446744073709551616 + l).toNat : Nat) : Int) % 10 = (h % 10 * 18446744073709551616 + l) % 10 := by omega
  rw [e1, e2] at h1
  exact h1
theorem text_less {h l d : Int} {out : List Int} (hh : 0 ≤ h ∧ h ≤ 9223372036854775808) (hl : 0 ≤ l ∧ l < 18446744073709551616) (hc : h ≠ 0 ∨ l ≠ 0 ∨ out.length = 0) :
    (h / 10 * 18446744073709551616 + (h % 10 * 18446744073709551616 + l) / 10).toNat + (if (out ++ [d]).length = 0 then 1 else 0) < (h * 18446744073709551616 + l).toNat + (if out.length = 0 then 1 else 0) := by
  rw [if_neg (by simp)]
  by_cases h0 : out.length = 0
  · rw [if_pos h0]; omega
  · rw [if_neg h0]; omega
/-! ## turning round -/
/-- So many at both ends are turned. -/
def Rv (xs ys : List Int) (i : Nat) : Prop := ys.length = xs.length ∧ ∀ k, k < xs.length → ys[k]? = if k < i ∨ xs.length ≤ k + i then xs[xs.length - 1 - k]? else xs[k]?
theorem Rv.start (xs : List Int) : Rv xs xs 0 := ⟨rfl, fun k hk => by rw [if_neg (by omega)]⟩
theorem Rv.step {xs ys : List Int} {i : Nat} {a b : Int} (h : Rv xs ys i) (hi : 2 * i + 1 < xs.length) (ha : ys[i]? = some a) (hb : ys[xs.length - 1 - i]? = some b) : Rv xs ((ys.set i b).set (xs.length - 1 - i) a) (i + 1) := by
  obtain ⟨hl, hk⟩ := h
  refine ⟨by rw [List.length_set, List.length_set, hl], fun k hk2 => ?_⟩
  have h1 := hk i (by omega)
  rw [if_neg (by omega), ha] at h1
  have h2 := hk (xs.length - 1 - i) (by omega)
  rw [if_neg (by omega), hb] at h2
  have h3 := hk k hk2
  rw [List.getElem?_set, List.getElem?_set, List.length_set, hl]
  by_cases e1 : xs.length - 1 - i = k
  · rw [if_pos e1, if_pos (by omega), if_pos (by omega), ← e1, show xs.length - 1 - (xs.length - 1 - i) = i by omega]; exact h1
  · rw [if_neg e1]
    by_cases e2 : i = k
    · rw [if_pos e2, if_pos (by omega), if_pos (by omega), ← e2]; exact h2
    · rw [if_neg e2, h3]
      by_cases c : k < i ∨ xs.length ≤ k + i
      · rw [if_pos c, if_pos (by omega)]
      · rw [if_neg c, if_neg (by omega)]
theorem Rv.fin {xs ys : List Int} {i : Nat} (h : Rv xs ys i) (hi : xs.length ≤ 2 * i + 1) : ys = xs.reverse := by
  obtain ⟨hl, hk⟩ := h
  apply List.ext_getElem?
  intro k
  by_cases hk2 : k < xs.length
  · rw [hk k hk2, List.getElem?_reverse hk2]
    by_cases c : k < i ∨ xs.length ≤ k + i
    · rw [if_pos c]
    · rw [if_neg c, show xs.length - 1 - k = k by omega]
  · rw [List.getElem?_eq_none (by omega), List.getElem?_eq_none (by simp; omega)]
end Go.Proofs.Ytnfideifgegijaa.B

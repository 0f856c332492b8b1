/- Digits and what they stand for: a text is parsed by the document just if .. ; the two readings agree. -/
import Derived.Test.YtnfideifgegijaaPrs
namespace Go.Proofs.Ytnfideifgegijaa.B
set_option linter.unusedVariables false
set_option linter.unusedSimpArgs false

theorem pv_nil : pv [] = 0 := rfl
theorem pv_dl : ∀ n : Nat, pv (dl n).reverse = (n : Int) := by
  intro n
  induction n using Nat.strongRecOn with
  | _ n ih =>
    by_cases h : n < 10
    · rw [dl_lo h]
      show (0 : Int) * 10 + (48 + (n : Int) - 48) = n
      omega
    · rw [dl_hi h, List.reverse_cons, pv_snoc, ih (n / 10) (by omega)]
      omega
theorem dl_last : ∀ n : Nat, n ≠ 0 → (dl n).reverse.head? ≠ some 48 := by
  intro n
  induction n using Nat.strongRecOn with
  | _ n ih =>
    intro h0
    by_cases h : n < 10
    · rw [dl_lo h]; simp; omega
    · rw [dl_hi h, List.reverse_cons]
      have h1 := ih (n / 10) (by omega) (by omega)
      have h2 : (dl (n / 10)).reverse ≠ [] := fun e => dl_ne (n / 10) (by simpa using e)
      rw [List.head?_append]
      match hq : (dl (n / 10)).reverse, h2 with
      | a :: as, _ => rw [hq] at h1; simpa using h1
theorem pv_bound : ∀ (k : Nat) (ds : List Int), ds.length = k → digits ds → 0 ≤ pv ds ∧ pv ds < 10 ^ k
  | 0, ds, h, _ => by
    have : ds = [] := List.eq_nil_of_length_eq_zero h
    subst this; exact ⟨Int.le_refl _, by show (0 : Int) < 10 ^ 0; decide⟩
  | k + 1, ds, h, hd => by
    have h0 : ds ≠ [] := fun e => by rw [e] at h; cases h
    have e := (List.dropLast_concat_getLast h0).symm
    have h1 := pv_bound k ds.dropLast (by rw [List.length_dropLast, h]; rfl) (fun d hx => hd d ((List.dropLast_prefix ds).subset hx))
    have h2 := hd _ (List.getLast_mem h0)
    rw [e, pv_snoc, Int.pow_succ]
    omega
theorem head_append {a b : List Int} (h : a ≠ []) : (a ++ b).head? = a.head? := by
  match a, h with
  | x :: xs, _ => rfl
/-- Digits with no 0 ahead are those of what they stand for. -/
theorem dl_pv : ∀ (k : Nat) (ds : List Int), ds.length = k + 1 → digits ds → (ds.head? = some 48 → ds.length ≤ 1) → (dl (pv ds).natAbs).reverse = ds ∧ (ds.head? ≠ some 48 → 1 ≤ pv ds)
  | 0, ds, h, hd, hh => by
    match ds, h with
    | [d], _ =>
      have h1 := hd d (by simp)
      have h2 : pv [d] = d - 48 := by show (0 : Int) * 10 + (d - 48) = _; omega
      rw [h2]
      refine ⟨?_, fun hne => ?_⟩
      · rw [dl_lo (by omega)]
        have : 48 + ((d - 48).natAbs : Int) = d := by omega
        rw [this]; rfl
      · have : d ≠ 48 := fun e => hne (by rw [e]; rfl)
        omega
  | k + 1, ds, h, hd, hh => by
    have h0 : ds ≠ [] := fun e => by rw [e] at h; cases h
    have e := (List.dropLast_concat_getLast h0).symm
    have hl : ds.dropLast.length = k + 1 := by rw [List.length_dropLast, h]; rfl
    have hn : ds.dropLast ≠ [] := fun e => by rw [e] at hl; cases hl
    have hhe : ds.head? = ds.dropLast.head? := by
      conv => lhs; rw [e]
      exact head_append hn
    have hne : ds.dropLast.head? ≠ some 48 := fun q => by have := hh (hhe.trans q); omega
    obtain ⟨h1, h2⟩ := dl_pv k ds.dropLast hl (fun d hx => hd d ((List.dropLast_prefix ds).subset hx)) (fun q => absurd q hne)
    have h3 := h2 hne
    have h4 := hd _ (List.getLast_mem h0)
    have hp : pv ds = pv ds.dropLast * 10 + (ds.getLast h0 - 48) := by
      conv => lhs; rw [e]
      exact pv_snoc _ _
    refine ⟨?_, fun _ => by omega⟩
    rw [dl_hi (by omega), List.reverse_cons, show (pv ds).natAbs / 10 = (pv ds.dropLast).natAbs by omega, h1, show (48 + ((pv ds).natAbs : Int) % 10) = ds.getLast h0 by omega]
    exact e.symm

/-! ## what the document parses -/
def gdL (ng : Bool) (ds : List Int) : Prop := ds ≠ [] ∧ ds.length ≤ 40 ∧ (ds.head? = some 48 → ds.length ≤ 1 ∧ ng = false)
instance (ng : Bool) (ds : List Int) : Decidable (gdL ng ds) := inferInstanceAs (Decidable (_ ∧ _ ∧ (_ → _)))
def sgn (ng : Bool) (z : Int) : Int := if ng = true then -z else z
def rprsB (ng : Bool) (ds : List Int) : Option Int := if gdL ng ds ∧ digits ds then some (sgn ng (pv ds)) else none
def rprs (xs : List Int) : Option Int := if xs.head? = some 45 then rprsB true xs.tail else rprsB false xs
theorem Cutd.rprs {s t : ByteArray} {b : Bool} (h : Cutd s t b) : B.rprs (sB s) = rprsB b (sB t) := by
  rcases h with ⟨rfl, h⟩ | ⟨rfl, h, rfl⟩
  · rw [h]; rfl
  · unfold B.rprs; rw [if_neg h]
theorem rprsB_ok {ng : Bool} {ds : List Int} (h : gdL ng ds) (h2 : digits ds) : rprsB ng ds = some (sgn ng (pv ds)) := if_pos ⟨h, h2⟩
theorem rprsB_bad {ng : Bool} {ds : List Int} (h : ¬ gdL ng ds) : rprsB ng ds = none := if_neg (fun k => h k.1)
theorem rprsB_dig {ng : Bool} {ds : List Int} (h : ¬ digits ds) : rprsB ng ds = none := if_neg (fun k => h k.2)
theorem txt_sgn {ng : Bool} {ds : List Int} (h : gdL ng ds) (hd : digits ds) : txt (sgn ng (pv ds)) = if ng = true then 45 :: ds else ds := by
  obtain ⟨h0, h1, h2⟩ := h
  have hl : ds.length = (ds.length - 1) + 1 := by have := List.length_pos_iff.2 h0; omega
  obtain ⟨g1, g2⟩ := dl_pv _ ds hl hd (fun q => (h2 q).1)
  have g3 := (pv_bound _ ds rfl hd).1
  cases ng with
  | false =>
    show txt (pv ds) = ds
    unfold txt
    rw [if_neg (by omega), g1]
  | true =>
    have g4 := g2 (fun q => by have := (h2 q).2; cases this)
    show txt (-pv ds) = 45 :: ds
    unfold txt
    rw [if_pos (by omega), Int.natAbs_neg, g1]
/-- A text that the document parses is the number's own. -/
theorem rprs_txt {xs : List Int} {z : Int} (h : rprs xs = some z) : txt z = xs := by
  unfold rprs at h
  by_cases hh : xs.head? = some 45
  · rw [if_pos hh] at h
    unfold rprsB at h
    by_cases hc : gdL true xs.tail ∧ digits xs.tail
    · rw [if_pos hc] at h
      injection h with h
      rw [← h, txt_sgn hc.1 hc.2, if_pos rfl]
      match xs, hh with
      | a :: as, hh => simp at hh; rw [hh]; rfl
    · rw [if_neg hc] at h; cases h
  · rw [if_neg hh] at h
    unfold rprsB at h
    by_cases hc : gdL false xs ∧ digits xs
    · rw [if_pos hc] at h
      injection h with h
      rw [← h, txt_sgn hc.1 hc.2]; rfl
    · rw [if_neg hc] at h; cases h
theorem dl_dig (n : Nat) : digits (dl n).reverse := fun d h => dl_digit n d (List.mem_reverse.1 h)
/-- A number's own text is parsed by the document as it. -/
theorem rprs_of {z : Int} (hz : z.natAbs < 10 ^ 40) : rprs (txt z) = some z := by
  have hl := dl_len 39 z.natAbs hz
  have hne : (dl z.natAbs).reverse ≠ [] := fun e => dl_ne z.natAbs (by simpa using e)
  unfold rprs
  by_cases h : z < 0
  · have ht : txt z = 45 :: (dl z.natAbs).reverse := by unfold txt; rw [if_pos h]
    rw [ht, if_pos (show (45 :: (dl z.natAbs).reverse).head? = some 45 from rfl), List.tail_cons, rprsB_ok ⟨hne, by rw [List.length_reverse]; exact hl, fun q => absurd q (dl_last _ (by omega))⟩ (dl_dig _), pv_dl]
    show some (-(z.natAbs : Int)) = some z
    rw [show (-(z.natAbs : Int)) = z by omega]
  · have ht : txt z = (dl z.natAbs).reverse := by unfold txt; rw [if_neg h]
    have h45 : (dl z.natAbs).reverse.head? ≠ some 45 := fun q => by
      have hm : (45 : Int) ∈ (dl z.natAbs).reverse := by
        match hq : (dl z.natAbs).reverse, q with
        | a :: as, q => simp at q; rw [q]; simp
      have := dl_dig _ _ hm; omega
    rw [ht, if_neg h45, rprsB_ok ⟨hne, by rw [List.length_reverse]; exact hl, fun q => ?_⟩ (dl_dig _), pv_dl]
    · show some (z.natAbs : Int) = some z
      rw [show (z.natAbs : Int) = z by omega]
    · by_cases h0 : z.natAbs = 0
      · rw [h0]; exact ⟨by rw [dl_lo (by decide)]; decide, rfl⟩
      · exact absurd q (dl_last _ h0)
theorem wn_wfit (s : Int) : wfit (wn s) := by have := w_range s; unfold wn wfit; omega
theorem wfit_lt {z : Int} (h : wfit z) : z.natAbs < 10 ^ 39 := by
  unfold wfit at h
  have : (10 : Nat) ^ 39 = 1000000000000000000000000000000000000000 := by decide
  omega
/-- Whatever the program parses has its own text. -/
theorem prs_txt {xs : List Int} {z : Int} (h : prs xs = some z) : txt z = xs ∧ wfit z := by
  have key : ∀ ng ds, prsB ng ds xs = some z → txt z = xs ∧ wfit z := by
    intro ng ds h
    by_cases hc : okd ds ∧ txt (wn (if ng = true then -pv ds else pv ds)) = xs
    · rw [prsB_ok hc.1 hc.2] at h
      injection h with h
      rw [← h]; exact ⟨hc.2, wn_wfit _⟩
    · unfold prsB at h
      rw [if_neg hc] at h
      cases h
  unfold prs at h
  split at h
  · exact key _ _ h
  · exact key _ _ h
/-- The program's reading is the document's, of a number of two words. -/
theorem prs_of {z : Int} (hz : wfit z) : prs (txt z) = some z := by
  have h39 := wfit_lt hz
  have hl := dl_len 38 z.natAbs h39
  have hne : (dl z.natAbs).reverse ≠ [] := fun e => dl_ne z.natAbs (by simpa using e)
  have hk : okd (dl z.natAbs).reverse := ⟨hne, by rw [List.length_reverse]; exact hl, dl_dig _⟩
  by_cases h : z < 0
  · have ht : txt z = 45 :: (dl z.natAbs).reverse := by unfold txt; rw [if_pos h]
    have hv : (if true = true then -pv (dl z.natAbs).reverse else pv (dl z.natAbs).reverse) = z := by rw [if_pos rfl, pv_dl]; omega
    rw [prs_neg ht, prsB_ok hk (by rw [hv, wn_fit hz]), hv, wn_fit hz]
  · have ht : txt z = (dl z.natAbs).reverse := by unfold txt; rw [if_neg h]
    have hv : (if false = true then -pv (dl z.natAbs).reverse else pv (dl z.natAbs).reverse) = z := by rw [if_neg (by decide), pv_dl]; omega
    have h45 : (txt z).head? ≠ some 45 := fun q => by
      rw [ht] at q
      have hm : (45 : Int) ∈ (dl z.natAbs).reverse := by
        match hq : (dl z.natAbs).reverse, q with
        | a :: as, q => simp at q; rw [q]; simp
      have := dl_dig _ _ hm; omega
    rw [prs_pos h45]
    conv => lhs; arg 2; rw [ht]
    rw [prsB_ok hk (by rw [hv, wn_fit hz]), hv, wn_fit hz]
theorem prs_iff (xs : List Int) (z : Int) : prs xs = some z ↔ rprs xs = some z ∧ wfit z := by
  constructor
  · intro h
    obtain ⟨h1, h2⟩ := prs_txt h
    have h3 := wfit_lt h2
    exact ⟨by rw [← h1]; exact rprs_of (by have : (10 : Nat) ^ 39 ≤ 10 ^ 40 := by decide
                                           omega), h2⟩
  · rintro ⟨h1, h2⟩
    rw [← rprs_txt h1]; exact prs_of h2
section
variable {P : Program} {ops : Array Oper} {C : World → Prop} {K : Regs → Prop} {r : Regs} {os : List Oper}
  {d : Nat} {ty t t' : TypeId} {pos : String} {aft : Array Edge} {g : Option (Nat × Bool)} {x y : Operand}
theorem Q.field1 {t : TypeId} {fs : Array Field} {x : Operand} {f : Nat} {fd : Field} {td : TypeDesc} {cs : Array Value} {v : Value} (ht : P.underlying t = some (.struct fs)) (hf : fs[f]? = some fd) (htf : P.underlying fd.type = some td) (hta : agB (some td) = false)
    (hx : ev r x = .agg cs) (hv : cs[fd.offset]? = some v) (hw : wantR ⟨some d, .field t x f, ty, pos, aft, g⟩ ops r = true) (h : WQ P ops C K os (upd r d v)) : WQ P ops C K (⟨some d, .field t x f, ty, pos, aft, g⟩ :: os) r := by
  refine Q.val hw (fun w hC => ?_) h
  simp only [execOp, hx, Instr.field, Sem.run_bind, run_underlying ht, Result.andThen_ok, hf, asAgg, pure_bind, part, run_isAgg htf, hta, Bool.false_eq_true, if_false, hv, Sem.run_pure]
theorem Q.eqlStr {a b : ByteArray} (hx : ev r x = .string a) (hy : ev r y = .string b) (hw : wantR ⟨some d, .binOp .eql t x y t', ty, pos, aft, g⟩ ops r = true)
    (h : WQ P ops C K os (upd r d (.bool (decide (a = b))))) : WQ P ops C K (⟨some d, .binOp .eql t x y t', ty, pos, aft, g⟩ :: os) r := by
  refine Q.val hw (fun w hC => ?_) h
  have : eqGuard .eql t x y (.string a) (.string b) = pure () := by unfold eqGuard; rfl
  have e : (a.toList == b.toList) = decide (a = b) := by
    rw [ByteArray.toList_eq, ByteArray.toList_eq]
    by_cases h : a = b
    · subst h; simp
    · have : a.data.toList ≠ b.data.toList := fun e => h (by cases a; cases b; rw [Array.toList_inj] at e; cases e; rfl)
      rw [decide_eq_false h]; exact beq_eq_false_iff_ne.2 this
  simp only [execOp, hx, hy, this, pure_bind, binOp, Op.stringOp, e, Sem.run_bind, Sem.run_pure, Result.andThen_ok]
theorem Q.addStr {a b : ByteArray} (hx : ev r x = .string a) (hy : ev r y = .string b) (hs : (a.size : Int) + b.size ≤ 9223372036854775807) (hw : wantR ⟨some d, .binOp .add t x y t', ty, pos, aft, g⟩ ops r = true)
    (h : WQ P ops C K os (upd r d (.string (a ++ b)))) : WQ P ops C K (⟨some d, .binOp .add t x y t', ty, pos, aft, g⟩ :: os) r := by
  refine Q.val hw (fun w hC => ?_) h
  have : eqGuard .add t x y (.string a) (.string b) = pure () := by unfold eqGuard; rfl
  have h2 : ¬ (((a.size + b.size : Nat) : Int) > IntKind.i64.max) := by
    have : IntKind.i64.max = 9223372036854775807 := rfl
    omega
  simp only [execOp, hx, hy, this, pure_bind, binOp, Op.stringOp, if_neg h2, Sem.run_bind, Sem.run_pure, Result.andThen_ok]
theorem Q.neqStr {a b : ByteArray} (hx : ev r x = .string a) (hy : ev r y = .string b) (hw : wantR ⟨some d, .binOp .neq t x y t', ty, pos, aft, g⟩ ops r = true)
    (h : WQ P ops C K os (upd r d (.bool (decide (a ≠ b))))) : WQ P ops C K (⟨some d, .binOp .neq t x y t', ty, pos, aft, g⟩ :: os) r := by
  refine Q.val hw (fun w hC => ?_) h
  have : eqGuard .neq t x y (.string a) (.string b) = pure () := by unfold eqGuard; rfl
  have e : (!(a.toList == b.toList)) = decide (a ≠ b) := by
    rw [ByteArray.toList_eq, ByteArray.toList_eq]
    by_cases h : a = b
    · subst h; simp
    · have : a.data.toList ≠ b.data.toList := fun e => h (by cases a; cases b; rw [Array.toList_inj] at e; cases e; rfl)
      rw [decide_eq_true h, beq_eq_false_iff_ne.2 this]; rfl
  simp only [execOp, hx, hy, this, pure_bind, binOp, Op.stringOp, e, Sem.run_bind, Sem.run_pure, Result.andThen_ok]
end
end Go.Proofs.Ytnfideifgegijaa.B

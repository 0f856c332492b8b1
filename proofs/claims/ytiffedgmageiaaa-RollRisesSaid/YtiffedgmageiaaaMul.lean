/- Rows of noughts, their elements in a walk that serves every order; the document's product limb by limb. -/
import Derived.Test.YtiffedgmageiaaaDiv
import Derived.Laws.MakeOwn
namespace Go.Proofs.Ytiffedgmageiaaa.B
set_option linter.unusedVariables false
set_option linter.unusedSimpArgs false
open Go.RowKit
section
variable {P : Program} {ops : Array Oper} {Q : Exit → Regs → World → Prop} {r : Regs} {w : World} {os : List Oper}
  {d : Nat} {ty t t' : TypeId} {pos : String} {aft : Array Edge} {g : Option (Nat × Bool)} {R : Kn} {L : List HP} {x y : Operand}
theorem rep_flat (k : IntKind) : ∀ n, (List.replicate n (0 : Int)).flatMap (encI k) = List.replicate n (Value.int k 0)
  | 0 => rfl
  | n + 1 => by rw [List.replicate_succ, List.replicate_succ, List.flatMap_cons, rep_flat k n]; rfl
/-- A row of so many noughts. -/
theorem S.makeInts {e : TypeId} {b n : Nat} {k kx ky : IntKind} {m m' : Int} (s : St w R L) (ht : P.underlying t = some (.slice e)) (hI : TI P e (.int k 0) 1 b) (hx : ev r x = .int kx m) (hy : ev r y = .int ky m') (hm : m = (n : Int)) (hm' : m' = (n : Int))
    (hb : n * b ≤ 281474976710656) (hn : n ≤ 1000000000) (hw : wantR ⟨some d, .makeSlice t x y, ty, pos, aft, g⟩ ops r = true)
    (h : ∀ v w', St w' R (Ow e (encI k) 1 v (List.replicate n 0) :: L) → WS P ops Q os (upd r d v) w') : WS P ops Q (⟨some d, .makeSlice t x y, ty, pos, aft, g⟩ :: os) r w := by
  subst hm; subst hm'
  obtain ⟨i, hi0, hz, hsz, hbs⟩ := hI
  have hbz : (i.bytes : Int) * (n : Int) ≤ 281474976710656 := by
    have h1 : ((n * b : Nat) : Int) ≤ 281474976710656 := by omega
    rw [Int.natCast_mul] at h1
    rwa [hbs, Int.mul_comm]
  have hr := run_make (P := P) w t e i (.int k 0) ht hi0 hz kx ky (n : Int) (n : Int) (by omega) (by omega) hbz (by omega)
  refine WS.op hw ?_
  have hr' : (execOp (ev r) ⟨some d, .makeSlice t x y, ty, pos, aft, g⟩).run P w = .ok (.value (.slice (some ⟨w.heap.size, 0, none⟩) n n)) (w.alloc (.cells (madeCells (Value.int k 0).cells (n * i.size)) e)) := by
    simp only [execOp, hx, hy, Sem.run_bind, hr, Result.andThen_ok, Sem.run_pure, Int.toNat_natCast]
  unfold ROp; rw [hr']
  refine h _ _ ?_
  have s1 : St (w.alloc (.cells (madeCells (Value.int k 0).cells (n * i.size)) e)) R (blk w.heap.size (.cells (madeCells (Value.int k 0).cells (n * i.size)) e (0, 0)) :: L) := s.new _
  have hc : (madeCells (Value.int k 0).cells (n * i.size)).toList = (List.replicate n (0 : Int)).flatMap (encI k) := by
    rw [rep_flat, hsz, Nat.mul_one]
    apply List.ext_getElem?
    intro j
    simp only [madeCells, Array.toList_map, Array.toList_range, List.getElem?_map, List.getElem?_replicate]
    by_cases hj : j < n
    · rw [List.getElem?_range hj, if_pos hj]
      simp [Value.cells, Nat.mod_one]
    · rw [if_neg hj, List.getElem?_eq_none (by simpa using hj)]; rfl
  have := s1.ownRow (enc := encI k) (n := 1) (List.replicate n (0 : Int)) hc (fun _ _ => rfl) (by rw [List.length_replicate]; simp [maxLen]; omega)
  rwa [List.length_replicate] at this
end
section
variable {P : Program} {ops : Array Oper} {K : Regs → Prop} {r : Regs} {os : List Oper}
  {d : Nat} {ty t t' : TypeId} {pos : String} {aft : Array Edge} {g : Option (Nat × Bool)} {R : Kn} {L : List HP} {x y : Operand}
theorem Q.indexOw {α : Type} {enc : α → List Value} {e : TypeId} {i : Nat} {v : Value} {xs : List α} {j : Int} {k : IntKind} {z : Value} {b : Nat} (hi : L[i]? = some (Ow e enc 1 v xs)) (ht : P.underlying t = some (.slice e)) (hz : TI P e z 1 b)
    (hx : ev r x = v) (hy : ev r y = .int k j) (hb : 0 ≤ j ∧ j < xs.length) (hw : wantR ⟨some d, .indexAddr t x y, ty, pos, aft, g⟩ ops r = true)
    (h : WQ P ops (fun w => St w R L) K os (upd r d (.pointer (some (elAddr v j.toNat))))) : WQ P ops (fun w => St w R L) K (⟨some d, .indexAddr t x y, ty, pos, aft, g⟩ :: os) r := by
  refine Q.val hw (fun w s => ?_) h
  have h0 : xs ≠ [] := by intro e; rw [e] at hb; simp at hb; omega
  obtain ⟨b, cap, cur, rfl, h1, h2, h3, h4, h5, s'⟩ := (s.at_ hi).openRow h0
  simp only [execOp, hx, hy, Instr.indexAt, asIntOf, pure_bind, Sem.run_bind, run_underlying ht, Result.andThen_ok, Sem.run_pure, if_pos hb, run_size hz, Nat.mul_one, elAddr]
theorem Q.loadOw {α : Type} {enc : α → List Value} {e : TypeId} {td : TypeDesc} {i k : Nat} {v : Value} {xs : List α} {u : α} {c : Value} (hi : L[i]? = some (Ow e enc 1 v xs)) (he : ∀ x ∈ xs, (enc x).length = 1)
    (ht : P.underlying t = some td) (hta : agB (some td) = false) (hx : ev r x = .pointer (some (elAddr v k))) (hu : xs[k]? = some u) (hc : enc u = [c])
    (hw : wantR ⟨some d, .load t x, ty, pos, aft, g⟩ ops r = true) (h : WQ P ops (fun w => St w R L) K os (upd r d c)) : WQ P ops (fun w => St w R L) K (⟨some d, .load t x, ty, pos, aft, g⟩ :: os) r :=
  Q.load1 ht hta hx (fun w s => ow_cell s hi he hu hc) hw h
end

/-! ## the product -/
theorem val_set : ∀ (a : List Int) (j : Nat) (u v : Int), a[j]? = some u → val (a.set j v) = val a + pw j * (v - u)
  | [], j, u, v, h => by simp at h
  | d :: a, 0, u, v, h => by
    simp at h; subst h
    rw [List.set_cons_zero, val, val, pw_zero]; omega
  | d :: a, j + 1, u, v, h => by
    rw [List.set_cons_succ, val, val, val_set a j u v (by simpa using h), pw_succ, Int.mul_add, Int.mul_assoc]; omega
theorem dig_set {a : List Int} (h : dig a) {j : Nat} {v : Int} (hv : 0 ≤ v ∧ v < 65536) : dig (a.set j v) := fun d hd => by
  rcases List.mem_or_eq_of_mem_set hd with h1 | h1
  · exact h d h1
  · subst h1; exact hv
theorem val_rep : ∀ n, val (List.replicate n 0) = 0
  | 0 => rfl
  | n + 1 => by rw [List.replicate_succ, val, val_rep n]; rfl
theorem dig_rep (n : Nat) : dig (List.replicate n 0) := fun d hd => by
  rw [(List.mem_replicate.1 hd).2]; omega
/-- What holds in a row of a product. -/
structure Mv (xs ys out : List Int) (i k : Nat) (c : Int) : Prop where
  eq : val out + c * pw (i + k) = vt xs i * val ys + lb xs i * pw i * vt ys k
  dg : dig out
  c0 : 0 ≤ c
  c1 : c < 65536
  ln : out.length = xs.length + ys.length + 1
theorem Mv.start {xs ys out : List Int} {i : Nat} (h : val out = vt xs i * val ys) (hd : dig out) (hl : out.length = xs.length + ys.length + 1) : Mv xs ys out i 0 0 :=
  ⟨by rw [h, vt_zero, Int.mul_zero, Int.zero_mul], hd, by omega, by omega, hl⟩
theorem Mv.place {xs ys out : List Int} {i k : Nat} {c : Int} (h : Mv xs ys out i k c) (hx : dig xs) (hy : dig ys) (hi : i < xs.length) (hc : k < ys.length ∨ 0 < c) : k ≤ ys.length := by
  rcases hc with hc | hc
  · omega
  · by_cases hk : k ≤ ys.length
    · exact hk
    · exfalso
      have e := h.eq
      rw [vt_all (a := ys) (i := k) (by omega)] at e
      have h1 := val_nonneg h.dg
      have h2 : pw (i + k) * 1 ≤ pw (i + k) * c := Int.mul_le_mul_of_nonneg_left (by omega) (Int.le_of_lt (pw_pos _))
      have h3 : vt xs i * val ys + lb xs i * pw i * val ys = vt xs (i + 1) * val ys := by
        rw [vt_succ, Int.add_mul, Int.mul_comm (lb xs i)]
      have h4 := vt_lt hx (i + 1)
      have h5 := vt_nonneg hx (i + 1)
      have h6 := val_lt hy
      have h7 := val_nonneg hy
      have h8 : vt xs (i + 1) * val ys ≤ pw (i + 1) * val ys := Int.mul_le_mul_of_nonneg_right (Int.le_of_lt h4) h7
      have h9 : pw (i + 1) * val ys < pw (i + 1) * pw ys.length := Int.mul_lt_mul_of_pos_left h6 (pw_pos _)
      rw [← pw_add] at h9
      have h10 := pw_le (show i + 1 + ys.length ≤ i + k by omega)
      rw [Int.mul_comm c] at e
      omega
theorem Mv.small {xs ys out : List Int} {i k : Nat} {c u a : Int} (h : Mv xs ys out i k c) (hx : dig xs) (hy : dig ys) (hu : out[i + k]? = some u) (ha : xs[i]? = some a) :
    (0 ≤ a * lb ys k ∧ a * lb ys k ≤ 4294836225) ∧ (0 ≤ u ∧ u < 65536) := by
  have h1 := hx a (List.mem_of_getElem? ha)
  have h2 := lb_dig hy k
  have h3 := h.dg u (List.mem_of_getElem? hu)
  refine ⟨⟨Int.mul_nonneg h1.1 h2.1, ?_⟩, h3⟩
  have := Int.mul_le_mul (show a ≤ 65535 by omega) (show lb ys k ≤ 65535 by omega) h2.1 (by decide)
  omega
theorem Mv.step {xs ys out : List Int} {i k : Nat} {c u a t : Int} (h : Mv xs ys out i k c) (hx : dig xs) (hy : dig ys) (hu : out[i + k]? = some u) (ha : xs[i]? = some a) (ht : t = c + (u + a * lb ys k)) :
    Mv xs ys (out.set (i + k) (t % 65536)) i (k + 1) (t / 65536) := by
  obtain ⟨⟨h1, h2⟩, h3⟩ := h.small hx hy hu ha
  have hc0 := h.c0; have hc1 := h.c1
  refine ⟨?_, dig_set h.dg (by omega), by omega, by omega, by rw [List.length_set]; exact h.ln⟩
  rw [val_set out (i + k) u _ hu, show i + (k + 1) = i + k + 1 by omega, pw_succ, vt_succ, lb_some ha]
  have e := h.eq
  rw [lb_some ha] at e
  have e1 : pw (i + k) = pw i * pw k := pw_add i k
  have e2 : t = 65536 * (t / 65536) + t % 65536 := by omega
  have e3 : a * pw i * (vt ys k + pw k * lb ys k) = a * pw i * vt ys k + pw (i + k) * (a * lb ys k) := by
    rw [Int.mul_add, e1]
    congr 1
    simp only [Int.mul_assoc, Int.mul_left_comm, Int.mul_comm]
  rw [e3]
  have e4 : t / 65536 * (65536 * pw (i + k)) = pw (i + k) * (65536 * (t / 65536)) := by
    simp only [Int.mul_assoc, Int.mul_left_comm, Int.mul_comm]
  rw [e4]
  have e5 : pw (i + k) * (t % 65536 - u) + pw (i + k) * (65536 * (t / 65536)) = pw (i + k) * (c + a * lb ys k) := by
    rw [← Int.mul_add]; congr 1; omega
  rw [Int.mul_comm c, ] at e
  have e6 : pw (i + k) * (c + a * lb ys k) = pw (i + k) * c + pw (i + k) * (a * lb ys k) := Int.mul_add ..
  omega
theorem Mv.done {xs ys out : List Int} {i k : Nat} {c : Int} (h : Mv xs ys out i k c) (hk : ys.length ≤ k) (hc : c = 0) : val out = vt xs (i + 1) * val ys := by
  have e := h.eq
  rw [hc, Int.zero_mul, Int.add_zero, vt_all (a := ys) hk] at e
  rw [e, vt_succ, Int.add_mul, Int.mul_comm (lb xs i)]
theorem mul_sign {n m : Bool} {a b x y : Int} (hx : x = (if n = true then -a else a)) (hy : y = (if m = true then -b else b)) : x * y = (if (!(n == m)) = true then -(a * b) else a * b) := by
  subst hx; subst hy
  cases n <;> cases m <;> simp [Int.neg_mul, Int.mul_neg]
theorem prod_big {x y : Int} (hx : -18446744073709551616 ≤ x ∧ x ≤ 18446744073709551616) (hy : -18446744073709551616 ≤ y ∧ y ≤ 18446744073709551616) : ((x * y).natAbs : Int) < big := by
  refine lt_big ?_
  rw [Int.natAbs_mul, Int.natCast_mul]
  have := Int.mul_le_mul (show (x.natAbs : Int) ≤ 18446744073709551616 by omega) (show (y.natAbs : Int) ≤ 18446744073709551616 by omega) (by omega) (by decide)
  omega
theorem cmp_sign {ng : Bool} {ds : List Int} {x y : Int} (hd : dig ds) (hc : canon ds) (hnz : ng = true → ds ≠ []) (hz : x + -y = (if ng = true then -val ds else val ds)) :
    (ds.length = 0 → (if x < y then (-1 : Int) else if x = y then 0 else 1) = 0) ∧ (¬ ds.length = 0 → ng = true → (if x < y then (-1 : Int) else if x = y then 0 else 1) = -1) ∧ (¬ ds.length = 0 → ng = false → (if x < y then (-1 : Int) else if x = y then 0 else 1) = 1) := by
  have hp : ¬ ds.length = 0 → 0 < val ds := fun h => neg_pos hd hc (fun e => h (by rw [e]; rfl))
  refine ⟨fun h => ?_, fun h hn => ?_, fun h hn => ?_⟩
  · have e : ds = [] := List.eq_nil_of_length_eq_zero h
    subst e
    cases ng
    · simp [val] at hz
      rw [if_neg (by omega), if_pos (by omega)]
    · exact absurd rfl (hnz rfl)
  · subst hn
    have := hp h
    simp at hz
    rw [if_pos (by omega)]
  · subst hn
    have := hp h
    simp at hz
    rw [if_neg (by omega), if_neg (by omega)]
end Go.Proofs.Ytiffedgmageiaaa.B

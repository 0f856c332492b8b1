/- Owned rows whose elements have several cells: their elements read and stored, whole or field by field. -/
import Derived.Test.YtiffedgmageiaaaPair
namespace Go.Proofs.Ytiffedgmageiaaa.B
set_option linter.unusedVariables false
set_option linter.unusedSimpArgs false
open Go.RowKit
section
variable {P : Program} {ops : Array Oper} {Q : Exit → Regs → World → Prop} {r : Regs} {w : World} {os : List Oper}
  {d : Nat} {ty t : TypeId} {pos : String} {aft : Array Edge} {g : Option (Nat × Bool)} {R : Kn} {L : List HP}
  {α : Type} {enc : α → List Value} {e : TypeId} {x y : Operand} {i k n f : Nat} {v : Value} {xs : List α} {u : α} {c : Value}
theorem ow_cellN (s : St w R L) (hi : L[i]? = some (Ow e enc n v xs)) (he : ∀ x ∈ xs, (enc x).length = n) (hx : xs[k]? = some u) (hc : (enc u)[f]? = some c) :
    w.cell? ((elAddr v (k * n)).add f) = some c := by
  have h0 : xs ≠ [] := by intro e; rw [e] at hx; simp at hx
  obtain ⟨b, cap, cur, rfl, h1, h2, h3, h4, h5, s'⟩ := (s.at_ hi).openRow h0
  simp only [elAddr, Addr.add_none, Nat.zero_add]
  refine cell_of_heap s'.blkAt ?_
  have := flat_at xs he k u hx f c hc
  rw [← h4, List.getElem?_take] at this
  split at this
  · rw [← Array.getElem?_toList]; exact this
  · cases this
theorem S.indexOwN {j : Int} {kd : IntKind} {z : Value} {b : Nat} (s : St w R L) (hi : L[i]? = some (Ow e enc n v xs)) (ht : P.underlying t = some (.slice e)) (hz : TI P e z n b)
    (hx : ev r x = v) (hy : ev r y = .int kd j) (hb : 0 ≤ j ∧ j < xs.length) (hw : wantR ⟨some d, .indexAddr t x y, ty, pos, aft, g⟩ ops r = true)
    (h : WS P ops Q os (upd r d (.pointer (some (elAddr v (j.toNat * n))))) w) : WS P ops Q (⟨some d, .indexAddr t x y, ty, pos, aft, g⟩ :: os) r w := by
  have h0 : xs ≠ [] := by intro e; rw [e] at hb; simp at hb; omega
  obtain ⟨b, cap, cur, rfl, h1, h2, h3, h4, h5, s'⟩ := (s.at_ hi).openRow h0
  exact S.indexAddr ht hz hx hy hb hw h
theorem Q.indexOwN {K : Regs → Prop} {j : Int} {kd : IntKind} {z : Value} {b : Nat} (hi : L[i]? = some (Ow e enc n v xs)) (ht : P.underlying t = some (.slice e)) (hz : TI P e z n b)
    (hx : ev r x = v) (hy : ev r y = .int kd j) (hb : 0 ≤ j ∧ j < xs.length) (hw : wantR ⟨some d, .indexAddr t x y, ty, pos, aft, g⟩ ops r = true)
    (h : WQ P ops (fun w => St w R L) K os (upd r d (.pointer (some (elAddr v (j.toNat * n)))))) : WQ P ops (fun w => St w R L) K (⟨some d, .indexAddr t x y, ty, pos, aft, g⟩ :: os) r := by
  refine Q.val hw (fun w s => ?_) h
  have h0 : xs ≠ [] := by intro e; rw [e] at hb; simp at hb; omega
  obtain ⟨b, cap, cur, rfl, h1, h2, h3, h4, h5, s'⟩ := (s.at_ hi).openRow h0
  simp only [execOp, hx, hy, Instr.indexAt, asIntOf, pure_bind, Sem.run_bind, run_underlying ht, Result.andThen_ok, Sem.run_pure, if_pos hb, run_size hz, elAddr]
theorem S.loadOwF {td : TypeDesc} (s : St w R L) (hi : L[i]? = some (Ow e enc n v xs)) (he : ∀ x ∈ xs, (enc x).length = n) (ht : P.underlying t = some td) (hta : agB (some td) = false)
    (hx : ev r x = .pointer (some ((elAddr v (k * n)).add f))) (hu : xs[k]? = some u) (hc : (enc u)[f]? = some c) (hw : wantR ⟨some d, .load t x, ty, pos, aft, g⟩ ops r = true) (h : WS P ops Q os (upd r d c) w) :
    WS P ops Q (⟨some d, .load t x, ty, pos, aft, g⟩ :: os) r w := S.load1 ht hta hx (ow_cellN s hi he hu hc) hw h
theorem Q.loadOwF {K : Regs → Prop} {td : TypeDesc} (hi : L[i]? = some (Ow e enc n v xs)) (he : ∀ x ∈ xs, (enc x).length = n) (ht : P.underlying t = some td) (hta : agB (some td) = false)
    (hx : ev r x = .pointer (some ((elAddr v (k * n)).add f))) (hu : xs[k]? = some u) (hc : (enc u)[f]? = some c) (hw : wantR ⟨some d, .load t x, ty, pos, aft, g⟩ ops r = true) (h : WQ P ops (fun w => St w R L) K os (upd r d c)) :
    WQ P ops (fun w => St w R L) K (⟨some d, .load t x, ty, pos, aft, g⟩ :: os) r := Q.load1 ht hta hx (fun w s => ow_cellN s hi he hu hc) hw h
theorem S.loadOwA {td : TypeDesc} {z : Value} {b' : Nat} (s : St w R L) (hi : L[i]? = some (Ow e enc n v xs)) (he : ∀ x ∈ xs, (enc x).length = n) (ht : P.underlying t = some td) (hta : agB (some td) = true) (hI : TI P t z n b')
    (hx : ev r x = .pointer (some (elAddr v (k * n)))) (hu : xs[k]? = some u) (hw : wantR ⟨some d, .load t x, ty, pos, aft, g⟩ ops r = true) (h : WS P ops Q os (upd r d (.agg (enc u).toArray)) w) :
    WS P ops Q (⟨some d, .load t x, ty, pos, aft, g⟩ :: os) r w :=
  S.loadA ht hta hI hx (he u (List.mem_of_getElem? hu)) (fun j c hc => ow_cellN s hi he hu hc) hw h
theorem Q.loadOwA {K : Regs → Prop} {td : TypeDesc} {z : Value} {b' : Nat} (hi : L[i]? = some (Ow e enc n v xs)) (he : ∀ x ∈ xs, (enc x).length = n) (ht : P.underlying t = some td) (hta : agB (some td) = true) (hI : TI P t z n b')
    (hx : ev r x = .pointer (some (elAddr v (k * n)))) (hu : xs[k]? = some u) (hw : wantR ⟨some d, .load t x, ty, pos, aft, g⟩ ops r = true) (h : WQ P ops (fun w => St w R L) K os (upd r d (.agg (enc u).toArray))) :
    WQ P ops (fun w => St w R L) K (⟨some d, .load t x, ty, pos, aft, g⟩ :: os) r :=
  Q.loadA ht hta hI hx (he u (List.mem_of_getElem? hu)) (fun w s j c hc => ow_cellN s hi he hu hc) hw h
theorem over_take {β : Type} (A cs : List β) (a N : Nat) (h : a + cs.length ≤ N) (hN : N ≤ A.length) : (A.take a ++ (cs ++ A.drop (a + cs.length))).take N = (A.take N).take a ++ (cs ++ (A.take N).drop (a + cs.length)) := by
  have e1 : (A.take a).take N = (A.take N).take a := by rw [List.take_take, List.take_take, Nat.min_comm]
  have e2 : (A.take a).length = a := by rw [List.length_take]; omega
  rw [List.take_append, e1, e2, List.take_append, List.take_of_length_le (l := cs) (by omega), List.drop_take, Nat.sub_sub]
theorem flat_set {cs : List Value} (hcs : enc u = cs) : ∀ (l : List α) (k : Nat), (∀ x ∈ l, (enc x).length = cs.length) → k < l.length → (l.set k u).flatMap enc = (l.flatMap enc).take (k * cs.length) ++ (cs ++ (l.flatMap enc).drop (k * cs.length + cs.length))
  | [], k, _, h => by simp at h
  | a :: l, 0, ha, _ => by
    have := ha a (List.mem_cons_self ..)
    simp [hcs, List.drop_append, this]
  | a :: l, k + 1, ha, h => by
    have h1 := ha a (List.mem_cons_self ..)
    have ih := flat_set hcs l k (fun x hx => ha x (List.mem_cons_of_mem _ hx)) (by simpa using h)
    rw [List.set_cons_succ, List.flatMap_cons, ih, List.flatMap_cons, Nat.add_mul, Nat.one_mul, List.take_append, List.drop_append, h1]
    rw [show k * cs.length + cs.length - cs.length = k * cs.length by omega, show k * cs.length + cs.length + cs.length - cs.length = k * cs.length + cs.length by omega]
    rw [List.take_of_length_le (l := enc a) (by omega), List.drop_eq_nil_of_le (as := enc a) (by omega), List.nil_append, List.append_assoc]
theorem S.storeOwA {z : Value} {b' : Nat} {dd : Option Nat} {val : Value} (s : St w R L) (hi : L[i]? = some (Ow e enc n v xs)) (he : ∀ x ∈ xs, (enc x).length = n) (hI : TI P t z n b')
    (hx : ev r x = .pointer (some (elAddr v (k * n)))) (hk : k < xs.length) (hy : ev r y = val) (hc : val.cells.toList = enc u) (hn : (enc u).length = n) (ho : ((enc u).all fun u => u.oneCell') = true)
    (hw : wantR ⟨dd, .store t x y, ty, pos, aft, g⟩ ops r = true) (h : ∀ w', St w' R (L.set i (Ow e enc n v (xs.set k u))) → WS P ops Q os (updO r dd undef) w') :
    WS P ops Q (⟨dd, .store t x y, ty, pos, aft, g⟩ :: os) r w := by
  subst hy
  have h0 : xs ≠ [] := by intro e; rw [e] at hk; simp at hk
  obtain ⟨b, cap, cur, rfl, h1, h2, h3, h4, h5, s'⟩ := (s.at_ hi).openRow h0
  simp only [elAddr, Addr.add_none, Nat.zero_add] at hx
  have hle : k * n + n ≤ xs.length * n := by rw [← Nat.succ_mul]; exact Nat.mul_le_mul_right _ hk
  have hle2 : xs.length * n ≤ cap * n := Nat.mul_le_mul_right _ h1
  have hcl : (cur.toList.take (k * n) ++ (enc u ++ cur.toList.drop (k * n + n))).length = cap * n := by
    rw [List.length_append, List.length_append, List.length_take, List.length_drop, Array.length_toList, hn]; omega
  refine S.storeB (i := 0) (c := cur) (off := k * n) (c' := cur.toList.take (k * n) ++ (enc u ++ cur.toList.drop (k * n + n))) s' rfl hI hx rfl hc hn ho (decide_eq_true (by omega)) rfl hw ?_
  intro w' s2
  refine h _ ?_
  have hfl := flat_set (u := u) (enc := enc) rfl xs k (fun x hx => (he x hx).trans hn.symm) hk
  rw [hn] at hfl
  have h9 : xs.length * (enc u).length ≤ cur.toList.length := by
    have h11 : cur.toList.length = cap * n := h3
    rw [h11, hn]; exact hle2
  have h8 : k * (enc u).length + (enc u).length ≤ xs.length * (enc u).length := by rw [hn]; exact hle
  have h10 := over_take cur.toList (enc u) (k * (enc u).length) (xs.length * (enc u).length) h8 h9
  rw [hn] at h10
  have s3 : St w' R (Ow e enc n (.slice (some ⟨b, 0, none⟩) (xs.set k u).length cap) (xs.set k u) :: L.eraseIdx i) := by
    refine s2.shutRow (by rw [List.length_set]; exact h1) h2 hcl ?_ ?_
    · rw [List.length_set, hfl, ← h4]; exact h10
    · rw [List.length_set, hfl, List.length_append, List.length_append, List.length_take, List.length_drop, h5, hn]; omega
  rw [List.length_set] at s3
  exact s3.put_ (List.getElem?_eq_some_iff.1 hi).1
end
end Go.Proofs.Ytiffedgmageiaaa.B

/- Arrays of longs: as values, in blocks of one's own, as elements of rows. -/
import Derived.Test.YtiffedgmageiaaaRng
import Derived.Test.YtiffedgmageiaaaPair
import Derived.ChangeKeysEq
namespace Go.Proofs.Ytiffedgmageiaaa.B
set_option linter.unusedVariables false
set_option linter.unusedSimpArgs false
open Go.RowKit

def encA (xs : List Int) : List Value := xs.map (Value.int .i64)
def aI (xs : List Int) : Array Value := (encA xs).toArray
abbrev aV (xs : List Int) : Value := .agg (aI xs)
abbrev zA : List Int := List.replicate 65 0
theorem encA_len (xs : List Int) : (encA xs).length = xs.length := by unfold encA; rw [List.length_map]
theorem aI_toList (xs : List Int) : (aI xs).toList = encA xs := rfl
theorem aI_flat (xs : List Int) : (aI xs).toList = xs.flatMap (encI .i64) := by
  show xs.map _ = _
  induction xs with
  | nil => rfl
  | cons x xs ih => rw [List.map_cons, List.flatMap_cons, ih]; rfl
theorem aI_get {xs : List Int} {i : Nat} {u : Int} (h : xs[i]? = some u) : (aI xs)[i]? = some (.int .i64 u) := by
  rw [← Array.getElem?_toList, aI_toList]; unfold encA; rw [List.getElem?_map, h]; rfl
theorem aI_inj {xs ys : List Int} (h : aI xs = aI ys) : xs = ys := by
  have h1 : encA xs = encA ys := by rw [← aI_toList, ← aI_toList, h]
  unfold encA at h1
  have : ∀ (xs ys : List Int), xs.map (Value.int .i64) = ys.map (Value.int .i64) → xs = ys := by
    intro xs
    induction xs with
    | nil => intro ys h; cases ys <;> simp_all
    | cons x xs ih => intro ys h; cases ys with
      | nil => simp at h
      | cons y ys => simp at h; rw [h.1, ih ys (by simpa using h.2)]
  exact this _ _ h1
theorem encA_one (xs : List Int) : ∀ u ∈ encA xs, u.oneCell' = true := by
  intro u hu
  unfold encA at hu
  obtain ⟨x, _, rfl⟩ := List.mem_map.1 hu
  rfl
theorem encA_all (xs : List Int) : ((encA xs).all fun u => u.oneCell') = true := List.all_eq_true.2 (encA_one xs)

section
variable {P : Program} {ops : Array Oper} {Q : Exit → Regs → World → Prop} {r : Regs} {w : World} {os : List Oper}
  {d : Nat} {ty t t' : TypeId} {pos : String} {aft : Array Edge} {g : Option (Nat × Bool)} {R : Kn} {L : List HP} {x y : Operand} {m : Nat}
/-- The whole array of a block of one's own. -/
theorem S.loadArr {e : TypeId} {z : Value} {b' i b : Nat} {te : TypeId} {fz : Nat × Nat} {xs : List Int} (s : St w R L) (hi : L[i]? = some (blk b (.cells (aI xs) te fz))) (ht : P.underlying t = some (.array m e)) (hI : TI P t z m b') (hl : xs.length = m)
    (hx : ev r x = .pointer (some ⟨b, 0, none⟩)) (hw : wantR ⟨some d, .load t x, ty, pos, aft, g⟩ ops r = true) (h : WS P ops Q os (upd r d (aV xs)) w) : WS P ops Q (⟨some d, .load t x, ty, pos, aft, g⟩ :: os) r w :=
  S.loadBA (cs := encA xs) s hi ht rfl hI hx (by rw [encA_len]; exact hl) (by rw [List.drop_zero, aI_toList, List.take_of_length_le (by rw [encA_len]; omega)]) hw h
/-- A whole array is stored. -/
theorem S.storeArr {z : Value} {b' i b : Nat} {te : TypeId} {xs ys : List Int} {dd : Option Nat} (s : St w R L) (hi : L[i]? = some (blk b (.cells (aI ys) te (0, 0)))) (hI : TI P t z m b') (hl : xs.length = m) (hl2 : ys.length = m)
    (hx : ev r x = .pointer (some ⟨b, 0, none⟩)) (hy : ev r y = aV xs) (hw : wantR ⟨dd, .store t x y, ty, pos, aft, g⟩ ops r = true)
    (h : ∀ w', St w' R (L.set i (blk b (.cells (aI xs) te (0, 0)))) → WS P ops Q os (updO r dd undef) w') : WS P ops Q (⟨dd, .store t x y, ty, pos, aft, g⟩ :: os) r w := by
  have hsz : (aI ys).size = m := by show (encA ys).length = m; rw [encA_len]; exact hl2
  refine S.storeB (c' := encA xs) s hi hI hx hy rfl ?_ (encA_all xs) ?_ ?_ hw h
  · rw [show (aV xs).cells = aI xs from rfl, aI_toList, encA_len]; exact hl
  · rw [hsz]; simp
  · rw [List.take_zero, List.nil_append, List.drop_eq_nil_of_le (by rw [aI_toList, encA_len]; omega), List.append_nil]; rfl
/-- The address of an element. -/
theorem S.ixArr {e : TypeId} {i : Int} {k : IntKind} {z : Value} {b b' : Nat} (ht : P.underlying t = some (.array m e)) (hz : TI P e z 1 b') (hx : ev r x = .pointer (some ⟨b, 0, none⟩)) (hy : ev r y = .int k i) (hb : 0 ≤ i ∧ i < m)
    (hw : wantR ⟨some d, .indexAddr t x y, ty, pos, aft, g⟩ ops r = true) (h : WS P ops Q os (upd r d (.pointer (some ⟨b, i.toNat, none⟩))) w) : WS P ops Q (⟨some d, .indexAddr t x y, ty, pos, aft, g⟩ :: os) r w := by
  refine S.indexArr ht hz hx hy hb hw ?_
  rw [Addr.add_none, Nat.mul_one, Nat.zero_add]; exact h
theorem S.loadAt {td : TypeDesc} {i b off : Nat} {te : TypeId} {fz : Nat × Nat} {xs : List Int} {u : Int} (s : St w R L) (hi : L[i]? = some (blk b (.cells (aI xs) te fz))) (ht : P.underlying t = some td) (hta : agB (some td) = false)
    (hx : ev r x = .pointer (some ⟨b, off, none⟩)) (hu : xs[off]? = some u) (hw : wantR ⟨some d, .load t x, ty, pos, aft, g⟩ ops r = true) (h : WS P ops Q os (upd r d (.int .i64 u)) w) : WS P ops Q (⟨some d, .load t x, ty, pos, aft, g⟩ :: os) r w :=
  S.loadB s hi ht hta hx (aI_get hu) hw h
theorem S.storeAt {z : Value} {b' i b off : Nat} {te : TypeId} {xs : List Int} {u : Int} {dd : Option Nat} (s : St w R L) (hi : L[i]? = some (blk b (.cells (aI xs) te (0, 0)))) (hI : TI P t z 1 b')
    (hx : ev r x = .pointer (some ⟨b, off, none⟩)) (hy : ev r y = .int .i64 u) (ho : off < xs.length) (hw : wantR ⟨dd, .store t x y, ty, pos, aft, g⟩ ops r = true)
    (h : ∀ w', St w' R (L.set i (blk b (.cells (aI (xs.set off u)) te (0, 0)))) → WS P ops Q os (updO r dd undef) w') : WS P ops Q (⟨dd, .store t x y, ty, pos, aft, g⟩ :: os) r w := by
  refine S.storeB (c' := encA (xs.set off u)) s hi hI hx hy rfl rfl rfl ?_ ?_ hw h
  · rw [show (aI xs).size = xs.length from encA_len xs]; exact decide_eq_true (show off + 1 ≤ xs.length by omega)
  · rw [aI_toList]
    show _ = (xs.set off u).map _
    rw [List.map_set, List.set_eq_take_append_cons_drop, if_pos (by rw [List.length_map]; exact ho)]
    rfl
/-- An array's element, of a value. -/
theorem S.ixVal {e : TypeId} {td : TypeDesc} {z : Value} {b' : Nat} {i : Int} {k : IntKind} {xs : List Int} {u : Int} (ht : P.underlying t = some (.array m e)) (he : P.underlying e = some td) (hta : agB (some td) = false) (hz : TI P e z 1 b')
    (hx : ev r x = aV xs) (hy : ev r y = .int k i) (hb : 0 ≤ i ∧ i < m) (hu : xs[i.toNat]? = some u) (hw : wantR ⟨some d, .index t x y, ty, pos, aft, g⟩ ops r = true)
    (h : WS P ops Q os (upd r d (.int .i64 u)) w) : WS P ops Q (⟨some d, .index t x y, ty, pos, aft, g⟩ :: os) r w := by
  refine S.val hw ?_ h
  simp only [execOp, hx, hy, Instr.index, asIntOf, pure_bind, Sem.run_bind, run_underlying ht, Result.andThen_ok, Sem.run_pure, if_pos hb, run_size hz, Nat.mul_one, part, run_isAgg he, hta, Bool.false_eq_true, if_false, aI_get hu]
/-- 'a[:]', 'a[:h]' of an array in a block. -/
theorem run_arrSlice {P : Program} {t e : TypeId} {m b b' : Nat} {z : Value} {w : World} (h : Option Value) (k : Nat) (ht : P.underlying t = some (.array m e)) (hz : TI P e z 1 b')
    (hk : (h = none ∧ k = m) ∨ (∃ kd, h = some (.int kd (k : Int)) ∧ k ≤ m)) : (Instr.sliceAt t (.pointer (some ⟨b, 0, none⟩)) none h none).run P w = .ok (.slice (some ⟨b, 0, none⟩) k m) w := by
  have hm : P.arrayLen t = m := by simp [Program.arrayLen, ht]
  have he : P.elem t = e := by simp [Program.elem, ht]
  have hu : P.underlying t = some (.array (P.arrayLen t) (P.elem t)) := by rw [hm, he]; exact ht
  rcases hk with ⟨rfl, rfl⟩ | ⟨kd, rfl, hle⟩
  · rw [run_sliceAt_array_all w t _ hu, he, run_size hz, hm]
    simp [Result.andThen_ok, slicedAt, sliced, Addr.add_none]
  · rw [run_sliceAt_array_h w t _ hu kd k (by omega) (by rw [hm]; omega), he, run_size hz, hm]
    simp [Result.andThen_ok, slicedAt, sliced, Addr.add_none]
theorem S.arrAll {e : TypeId} {z : Value} {b b' : Nat} (ht : P.underlying t = some (.array m e)) (hz : TI P e z 1 b') (hx : ev r x = .pointer (some ⟨b, 0, none⟩)) (hw : wantR ⟨some d, .slice t x none none none, ty, pos, aft, g⟩ ops r = true)
    (h : WS P ops Q os (upd r d (.slice (some ⟨b, 0, none⟩) m m)) w) : WS P ops Q (⟨some d, .slice t x none none none, ty, pos, aft, g⟩ :: os) r w := by
  refine S.val hw ?_ h
  simp only [execOp, hx, Option.map_none, run_arrSlice none m ht hz (.inl ⟨rfl, rfl⟩), Sem.run_bind, Result.andThen_ok, Sem.run_pure]
theorem S.arrHi {e : TypeId} {z : Value} {b b' : Nat} {i : Int} {kd : IntKind} (k : Nat) (ht : P.underlying t = some (.array m e)) (hz : TI P e z 1 b') (hx : ev r x = .pointer (some ⟨b, 0, none⟩)) (hy : ev r y = .int kd i) (hi : i = (k : Int)) (hk : k ≤ m)
    (hw : wantR ⟨some d, .slice t x none (some y) none, ty, pos, aft, g⟩ ops r = true)
    (h : WS P ops Q os (upd r d (.slice (some ⟨b, 0, none⟩) k m)) w) : WS P ops Q (⟨some d, .slice t x none (some y) none, ty, pos, aft, g⟩ :: os) r w := by
  subst hi
  refine S.val hw ?_ h
  simp only [execOp, hx, hy, Option.map_none, Option.map_some, run_arrSlice (some (.int kd (k : Int))) k ht hz (.inr ⟨kd, rfl, hk⟩), Sem.run_bind, Result.andThen_ok, Sem.run_pure]
end

/-! ## '==' of arrays -/
theorem Eq1.arr {P : Program} {d : Nat} {t e : TypeId} {m : Nat} {i : TypeInfo} {xs ys : List Int} (hu : P.underlying t = some (.array m e)) (hi : P.info? e = some i) (hc : P.cellsOf e = 1) (he : P.underlying e = some (.int .i64)) (hx : xs.length = m) (hy : ys.length = m) :
    Eq1 P (d + 2) t (aV xs) (aV ys) (xs = ys) := fun w => by
  rw [run_equalIn_array w (d + 1) _ _ hu hi, hc]
  have key : ∀ (is : List Nat), (∀ j ∈ is, j < m) → (Op.eqItems (d + 1) e 1 (aI xs) (aI ys) is).run P w = .ok (decide (∀ j ∈ is, xs[j]? = ys[j]?)) w := by
    intro is
    induction is with
    | nil => intro _; simp [Op.eqItems]
    | cons j is ih =>
      intro hj
      have hjm : j < m := hj j (List.mem_cons_self ..)
      obtain ⟨a, ha⟩ : ∃ a, xs[j]? = some a := ⟨_, List.getElem?_eq_getElem (by omega)⟩
      obtain ⟨b, hb⟩ : ∃ b, ys[j]? = some b := ⟨_, List.getElem?_eq_getElem (by omega)⟩
      have p1 : (part e (aI xs) (j * 1)).run P w = .ok (.int .i64 a) w := Part1.one (P := P) he rfl (by rw [Nat.mul_one]; exact aI_get ha) w
      have p2 : (part e (aI ys) (j * 1)).run P w = .ok (.int .i64 b) w := Part1.one (P := P) he rfl (by rw [Nat.mul_one]; exact aI_get hb) w
      have p3 := run_equalIn_int w d e .i64 .i64 a b he
      simp only [Op.eqItems, Sem.run_bind, p1, p2, p3, Result.andThen_ok]
      by_cases hab : a = b
      · subst hab
        have := ih (fun j hj' => hj j (List.mem_cons_of_mem _ hj'))
        simp [this, ha, hb]
      · simp [hab, ha, hb]
  rw [key _ (fun j hj => List.mem_range.1 hj)]
  congr 1
  have : (∀ j ∈ List.range m, xs[j]? = ys[j]?) ↔ xs = ys := by
    constructor
    · intro h
      apply List.ext_getElem?
      intro j
      by_cases hj : j < m
      · exact h j (List.mem_range.2 hj)
      · rw [List.getElem?_eq_none (by omega), List.getElem?_eq_none (by omega)]
    · rintro rfl j _; rfl
  simp only [this]

/-! ## rows of arrays -/
section
variable {P : Program} {ops : Array Oper} {Q : Exit → Regs → World → Prop} {r : Regs} {w : World} {os : List Oper}
  {d : Nat} {ty t t' : TypeId} {pos : String} {aft : Array Edge} {g : Option (Nat × Bool)} {R : Kn} {L : List HP} {x y : Operand}
/-- A row is built, its parts' sizes shown. -/
theorem S.buildRowP {t e : TypeId} {z : Value} {n b len : Nat} {parts : Array (Nat × Operand)} {vs : List Value} {cs : List Value} (s : St w R L) (ht : P.underlying t = some (.slice e)) (hI : TI P e z n b) (hz : Nat.beq z.cells.size n = true)
    (hsm : Nat.ble (len * n) 16777216 = true) (hpi : parts.toList.map (·.1) = List.range' 0 len) (hpl : (parts.toList.map fun q => ev r q.2) = vs) (hc : vs.flatMap (fun v => v.cells.toList) = cs) (hsz : ∀ v ∈ vs, v.cells.size = n)
    (hw : wantR ⟨some d, .buildSlice t len parts, ty, pos, aft, g⟩ ops r = true)
    (h : ∀ b w', St w' R (blk b (.cells cs.toArray e (0, 0)) :: L) → WS P ops Q os (upd r d (.slice (some ⟨b, 0, none⟩) len len)) w') :
    WS P ops Q (⟨some d, .buildSlice t len parts, ty, pos, aft, g⟩ :: os) r w :=
  S.buildRow s ht hI hz hsm hpi hpl hc (List.all_eq_true.2 fun v hv => by rw [hsz v hv]; exact Nat.beq_refl n) hw h
/-- What is known of an array that never changes. -/
theorem S.loadKn {e : TypeId} {z : Value} {b' b k : Nat} {xs : List Int} {m : Nat} (s : St w R L) (hro : Ro R (encI .i64) 1 (.slice (some ⟨b, 0, none⟩) xs.length k) xs) (ht : P.underlying t = some (.array m e)) (hI : TI P t z m b') (hl : xs.length = m)
    (hx : ev r x = .pointer (some ⟨b, 0, none⟩)) (hw : wantR ⟨some d, .load t x, ty, pos, aft, g⟩ ops r = true) (h : WS P ops Q os (upd r d (aV xs)) w) : WS P ops Q (⟨some d, .load t x, ty, pos, aft, g⟩ :: os) r w := by
  refine S.loadRoA (cs := encA xs) s ?_ (by rw [encA_len]; exact hl) ht rfl hI hx hw h
  intro j c hc
  rcases hro with ⟨h1, _⟩ | ⟨a, c', h1, h2, h3⟩
  · cases h1
  · injection h1 with h1 _ _
    injection h1 with h1
    subst h1
    unfold encA at hc
    rw [List.getElem?_map] at hc
    obtain ⟨u, hu, rfl⟩ := Option.map_eq_some_iff.1 hc
    have := (h3 j u hu).2 0 (.int .i64 u) rfl
    rwa [Nat.mul_one, Nat.add_zero] at this
end

/-! ## with places told by 'getD' -/
theorem getD_some {xs : List Int} {n : Nat} (h : n < xs.length) : xs[n]? = some (xs.getD n 0) := by rw [List.getD_eq_getElem?_getD, List.getElem?_eq_getElem h]; rfl
theorem Eq1.arrT {P : Program} {d : Nat} {t e : TypeId} {m b : Nat} {z : Value} {xs ys : List Int} (hu : P.underlying t = some (.array m e)) (hI : TI P e z 1 b) (he : P.underlying e = some (.int .i64)) (hx : xs.length = m) (hy : ys.length = m) :
    Eq1 P (d + 2) t (aV xs) (aV ys) (xs = ys) := by
  obtain ⟨i, hi, _, hs, _⟩ := hI
  exact Eq1.arr hu hi (by unfold Program.cellsOf; rw [hi]; exact hs) he hx hy
section
variable {P : Program} {ops : Array Oper} {Q : Exit → Regs → World → Prop} {r : Regs} {w : World} {os : List Oper}
  {d : Nat} {ty t t' : TypeId} {pos : String} {aft : Array Edge} {g : Option (Nat × Bool)} {R : Kn} {L : List HP} {x y : Operand} {m : Nat}
theorem S.loadAtG {td : TypeDesc} {i b off : Nat} {te : TypeId} {fz : Nat × Nat} {xs : List Int} (s : St w R L) (hi : L[i]? = some (blk b (.cells (aI xs) te fz))) (ht : P.underlying t = some td) (hta : agB (some td) = false)
    (hx : ev r x = .pointer (some ⟨b, off, none⟩)) (hl : xs.length = m) (ho : off < m) (hw : wantR ⟨some d, .load t x, ty, pos, aft, g⟩ ops r = true) (h : WS P ops Q os (upd r d (.int .i64 (xs.getD off 0))) w) : WS P ops Q (⟨some d, .load t x, ty, pos, aft, g⟩ :: os) r w :=
  S.loadAt s hi ht hta hx (getD_some (by omega)) hw h
theorem S.storeAtG {z : Value} {b' i b off : Nat} {te : TypeId} {xs : List Int} {u : Int} {dd : Option Nat} (s : St w R L) (hi : L[i]? = some (blk b (.cells (aI xs) te (0, 0)))) (hI : TI P t z 1 b')
    (hx : ev r x = .pointer (some ⟨b, off, none⟩)) (hy : ev r y = .int .i64 u) (hl : xs.length = m) (ho : off < m) (hw : wantR ⟨dd, .store t x y, ty, pos, aft, g⟩ ops r = true)
    (h : ∀ w', St w' R (L.set i (blk b (.cells (aI (xs.set off u)) te (0, 0)))) → WS P ops Q os (updO r dd undef) w') : WS P ops Q (⟨dd, .store t x y, ty, pos, aft, g⟩ :: os) r w :=
  S.storeAt s hi hI hx hy (by omega) hw h
theorem S.ixValG {e : TypeId} {td : TypeDesc} {z : Value} {b' : Nat} {i : Int} {k : IntKind} {xs : List Int} (ht : P.underlying t = some (.array m e)) (he : P.underlying e = some td) (hta : agB (some td) = false) (hz : TI P e z 1 b')
    (hx : ev r x = aV xs) (hy : ev r y = .int k i) (hl : xs.length = m) (hb : 0 ≤ i ∧ i < m) (hw : wantR ⟨some d, .index t x y, ty, pos, aft, g⟩ ops r = true)
    (h : WS P ops Q os (upd r d (.int .i64 (xs.getD i.toNat 0))) w) : WS P ops Q (⟨some d, .index t x y, ty, pos, aft, g⟩ :: os) r w :=
  S.ixVal ht he hta hz hx hy hb (getD_some (by omega)) hw h
theorem roArr {b off k len : Nat} {xs : List Int} (hro : Ro R (encI .i64) 1 (.slice (some ⟨b, 0, none⟩) len k) xs) (ho : off < xs.length) : roCell R ⟨b, off, none⟩ (.int .i64 (xs.getD off 0)) := by
  rcases hro with ⟨h1, _⟩ | ⟨a, c', h1, h2, h3⟩
  · cases h1
  · injection h1 with h1 _ _
    injection h1 with h1
    subst h1
    have := (h3 off _ (getD_some ho)).2 0 _ rfl
    rw [Nat.mul_one, Nat.add_zero, Addr.add_none, Nat.zero_add] at this
    exact this
theorem S.loadKnAt {td : TypeDesc} {b off len k : Nat} {xs : List Int} (s : St w R L) (hro : Ro R (encI .i64) 1 (.slice (some ⟨b, 0, none⟩) len k) xs) (ht : P.underlying t = some td) (hta : agB (some td) = false)
    (hx : ev r x = .pointer (some ⟨b, off, none⟩)) (hl : xs.length = m) (ho : off < m) (hw : wantR ⟨some d, .load t x, ty, pos, aft, g⟩ ops r = true) (h : WS P ops Q os (upd r d (.int .i64 (xs.getD off 0))) w) : WS P ops Q (⟨some d, .load t x, ty, pos, aft, g⟩ :: os) r w :=
  S.load1 ht hta hx (s.roCell (roArr hro (by omega))) hw h
/-- An element of an element of a row of arrays. -/
theorem S.ixElt {e : TypeId} {i : Int} {k : IntKind} {z : Value} {ad : Addr} {b' : Nat} (ht : P.underlying t = some (.array m e)) (hz : TI P e z 1 b') (hx : ev r x = .pointer (some ad)) (hy : ev r y = .int k i) (hb : 0 ≤ i ∧ i < m)
    (hw : wantR ⟨some d, .indexAddr t x y, ty, pos, aft, g⟩ ops r = true) (h : WS P ops Q os (upd r d (.pointer (some (ad.add i.toNat)))) w) : WS P ops Q (⟨some d, .indexAddr t x y, ty, pos, aft, g⟩ :: os) r w := by
  refine S.indexArr ht hz hx hy hb hw ?_
  rw [Nat.mul_one]; exact h
theorem S.loadEltAt {td : TypeDesc} {ad : Addr} {off : Nat} {xs : List Int} (s : St w R L) (hc : ∀ j c, (encA xs)[j]? = some c → roCell R (ad.add j) c) (ht : P.underlying t = some td) (hta : agB (some td) = false)
    (hx : ev r x = .pointer (some (ad.add off))) (hl : xs.length = m) (ho : off < m) (hw : wantR ⟨some d, .load t x, ty, pos, aft, g⟩ ops r = true) (h : WS P ops Q os (upd r d (.int .i64 (xs.getD off 0))) w) : WS P ops Q (⟨some d, .load t x, ty, pos, aft, g⟩ :: os) r w :=
  S.load1 ht hta hx (s.roCell (hc off _ (by unfold encA; rw [List.getElem?_map, getD_some (by omega)]; rfl))) hw h
/-- A whole element of a row of arrays. -/
theorem S.loadEltA {z : Value} {b' : Nat} {e : TypeId} {ad : Addr} {xs : List Int} (s : St w R L) (hc : ∀ j c, (encA xs)[j]? = some c → roCell R (ad.add j) c) (hl : (encA xs).length = m) (ht : P.underlying t = some (.array m e)) (hI : TI P t z m b')
    (hx : ev r x = .pointer (some ad)) (hw : wantR ⟨some d, .load t x, ty, pos, aft, g⟩ ops r = true) (h : WS P ops Q os (upd r d (aV xs)) w) : WS P ops Q (⟨some d, .load t x, ty, pos, aft, g⟩ :: os) r w :=
  S.loadRoA s hc hl ht rfl hI hx hw h
theorem run_loadArr {e : TypeId} {z : Value} {b' i b : Nat} {te : TypeId} {fz : Nat × Nat} {xs : List Int} (s : St w R L) (hi : L[i]? = some (blk b (.cells (aI xs) te fz))) (ht : P.underlying t = some (.array m e)) (hI : TI P t z m b') (hl : xs.length = m) :
    (loadVar t ⟨b, 0, none⟩).run P w = .ok (aV xs) w :=
  run_loadBA (cs := encA xs) s hi ht rfl hI (by rw [encA_len]; exact hl) (by rw [List.drop_zero, aI_toList, List.take_of_length_le (by rw [encA_len]; omega)])
theorem S.mkFunc {fn : Go.Fn} {as : List Operand} {vs : List Value} (ha : as.map (ev r) = vs) (hw : wantR ⟨some d, .makeFunc fn #[] as.toArray, ty, pos, aft, g⟩ ops r = true)
    (h : WS P ops Q os (upd r d (.func fn #[] vs.toArray)) w) : WS P ops Q (⟨some d, .makeFunc fn #[] as.toArray, ty, pos, aft, g⟩ :: os) r w := by
  subst ha
  refine S.val hw ?_ h
  simp only [execOp, Array.map_empty, List.map_toArray]; rfl
theorem S.eqlNilF {fn : Go.Fn} {vs us : Array Value} (hE : (Op.equal t (.func fn us vs) .nilFunc).run P w = .ok false w) (hx : ev r x = .func fn us vs) (hy : ev r y = .nilFunc) (hw : wantR ⟨some d, .binOp .eql t x y t', ty, pos, aft, g⟩ ops r = true)
    (h : WS P ops Q os (upd r d (.bool false)) w) : WS P ops Q (⟨some d, .binOp .eql t x y t', ty, pos, aft, g⟩ :: os) r w := by
  refine S.val hw ?_ h
  have : eqGuard .eql t x y (.func fn us vs) .nilFunc = pure () := by unfold eqGuard; rfl
  simp only [execOp, hx, hy, this, pure_bind, Sem.run_bind, binOp, hE, Result.andThen_ok, Sem.run_pure]
theorem run_equalIn_func_nil (d : Nat) {fn : Go.Fn} {us vs : Array Value} {t : TypeId} {a b : Array TypeId} {c : Bool} (h : P.underlying t = some (.func a b c)) : (Op.equalIn (d + 1) t (.func fn us vs) .nilFunc).run P w = .ok false w := by
  simp [Op.equalIn, run_underlying h]
theorem run_equal_func_nil {fn : Go.Fn} {us vs : Array Value} {t : TypeId} {a b : Array TypeId} {c : Bool} (h : P.underlying t = some (.func a b c)) : (Op.equal t (.func fn us vs) .nilFunc).run P w = .ok false w := run_equalIn_func_nil 9999 h
theorem S.noFunc (hw : wantR ⟨some d, .assign (.const .nilFunc), ty, pos, aft, g⟩ ops r = true) (h : WS P ops Q os (upd r d .nilFunc) w) : WS P ops Q (⟨some d, .assign (.const .nilFunc), ty, pos, aft, g⟩ :: os) r w := S.val hw rfl h
end
/-- The beginning of an array that never changes, as a row. -/
theorem Ro.arrTake {R : Kn} {b len k k' : Nat} {xs : List Int} (hro : Ro R (encI .i64) 1 (.slice (some ⟨b, 0, none⟩) len k) xs) (j : Nat) (hj : j ≤ xs.length) (hk : j ≤ k') : Ro R (encI .i64) 1 (.slice (some ⟨b, 0, none⟩) j k') (xs.take j) := by
  rcases hro with ⟨h1, _⟩ | ⟨a, c', h1, h2, h3⟩
  · cases h1
  · injection h1 with h1 _ _
    refine .inr ⟨a, k', by rw [h1, List.length_take, Nat.min_eq_left hj], by rw [List.length_take]; omega, fun i x hx => h3 i x ?_⟩
    rw [List.getElem?_take] at hx
    split at hx
    · exact hx
    · cases hx
theorem gd_nat {xs : List Int} {i : Nat} : xs.getD ((i : Int)).toNat 0 = xs.getD i 0 := rfl
theorem zA_len : zA.length = 65 := rfl
theorem setp2 {a b : Nat} {u v : Value} {r : Regs} : B.setp #[a, b] #[u, v] r = upd (upd r a u) b v := by
  unfold B.setp; simp
end Go.Proofs.Ytiffedgmageiaaa.B

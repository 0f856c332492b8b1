/- Structs compared part by part; rows of pairs of longs; an element's field; what a law is handed of these. -/
import Derived.Test.YtiffedgmageiaaaStruct
import Derived.Test.YtiffedgmageiaaaRead
namespace Go.Proofs.Ytiffedgmageiaaa.B
set_option linter.unusedVariables false
set_option linter.unusedSimpArgs false
open Go.RowKit Go.ChangeShapes Go.WideShapes

/-! ## '==' of structs -/
/-- Two values of a type are the same just if p. -/
def Eq1 (P : Program) (d : Nat) (t : TypeId) (a b : Value) (p : Prop) [Decidable p] : Prop := ∀ w, (Op.equalIn d t a b).run P w = .ok (decide p) w
def EqF (P : Program) (d : Nat) (xs ys : Array Value) (fs : List Field) (p : Prop) [Decidable p] : Prop := ∀ w, (Op.eqFields d xs ys fs).run P w = .ok (decide p) w
def Part1 (P : Program) (t : TypeId) (xs : Array Value) (off : Nat) (v : Value) : Prop := ∀ w, (part t xs off).run P w = .ok v w
section
variable {P : Program}
theorem Eq1.int {d : Nat} {t : TypeId} {k k' : IntKind} {a b : Int} (h : P.underlying t = some (.int k')) : Eq1 P (d + 1) t (.int k a) (.int k b) (a = b) := fun w => by
  rw [run_equalIn_int w d t k k' a b h]
  by_cases e : a = b
  · subst e; simp
  · simp [e]
theorem Eq1.bool {d : Nat} {t : TypeId} {a b : Bool} (h : P.underlying t = some .bool) : Eq1 P (d + 1) t (.bool a) (.bool b) (a = b) := fun w => by
  rw [run_equalIn_bool' w d t a b h]
  cases a <;> cases b <;> rfl
theorem Part1.one {t : TypeId} {td : TypeDesc} {xs : Array Value} {off : Nat} {v : Value} (ht : P.underlying t = some td) (hta : agB (some td) = false) (hv : xs[off]? = some v) : Part1 P t xs off v := fun w => by
  simp only [part, Sem.run_bind, run_isAgg ht, hta, Result.andThen_ok, Bool.false_eq_true, if_false, hv, Sem.run_pure]
theorem EqF.one {d : Nat} {xs ys : Array Value} {f : Field} {a b : Value} {p : Prop} [Decidable p] (hn : f.name ≠ "_") (ha : Part1 P f.type xs f.offset a) (hb : Part1 P f.type ys f.offset b) (h : Eq1 P d f.type a b p) : EqF P d xs ys [f] p := fun w => by
  simp only [Op.eqFields, hn, ne_eq, not_false_eq_true, if_true, Sem.run_bind, ha w, hb w, h w, Result.andThen_ok]
  by_cases hp : p <;> simp [hp]
theorem EqF.cons {d : Nat} {xs ys : Array Value} {f : Field} {fs : List Field} {a b : Value} {p q : Prop} [Decidable p] [Decidable q] (hn : f.name ≠ "_") (ha : Part1 P f.type xs f.offset a) (hb : Part1 P f.type ys f.offset b) (h : Eq1 P d f.type a b p)
    (hs : EqF P d xs ys fs q) : EqF P d xs ys (f :: fs) (p ∧ q) := fun w => by
  rw [Op.eqFields]
  simp only [hn, ne_eq, not_false_eq_true, if_true, Sem.run_bind, ha w, hb w, h w, Result.andThen_ok]
  by_cases hp : p
  · simp only [hp, decide_true, Bool.not_true, Bool.false_eq_true, if_false, hs w, true_and]
  · simp [hp]
theorem Eq1.struct {d : Nat} {t : TypeId} {fs : Array Field} {xs ys : Array Value} {p : Prop} [Decidable p] (hu : P.underlying t = some (.struct fs)) (hp : P.stoodInHeld t = false) (h : EqF P d xs ys fs.toList p) : Eq1 P (d + 1) t (.agg xs) (.agg ys) p := fun w => by
  have hf : P.fieldsOf t = fs := by simp [Program.fieldsOf, hu]
  rw [run_equalIn_struct w d t xs ys (by rw [hf]; exact hu) hp, hf]
  exact h w
/-- A struct of two longs. -/
theorem Eq1.pair {d : Nat} {t : TypeId} {f0 f1 : Field} {k0 k1 : IntKind} {a b a' b' : Int} (hu : P.underlying t = some (.struct #[f0, f1])) (hp : P.stoodInHeld t = false) (n0 : f0.name ≠ "_") (n1 : f1.name ≠ "_")
    (h0 : P.underlying f0.type = some (.int k0)) (h1 : P.underlying f1.type = some (.int k1)) (o0 : f0.offset = 0) (o1 : f1.offset = 1) :
    Eq1 P (d + 2) t (.agg #[.int k0 a, .int k1 b]) (.agg #[.int k0 a', .int k1 b']) (a = a' ∧ b = b') :=
  Eq1.struct hu hp (EqF.cons n0 (Part1.one h0 rfl (by rw [o0]; rfl)) (Part1.one h0 rfl (by rw [o0]; rfl)) (Eq1.int h0) (EqF.one n1 (Part1.one h1 rfl (by rw [o1]; rfl)) (Part1.one h1 rfl (by rw [o1]; rfl)) (Eq1.int h1)))
end
section
variable {P : Program} {ops : Array Oper} {Q : Exit → Regs → World → Prop} {r : Regs} {w : World} {os : List Oper}
  {d : Nat} {ty t t' : TypeId} {pos : String} {aft : Array Edge} {g : Option (Nat × Bool)} {R : Kn} {L : List HP} {x y : Operand}
theorem S.eqlS {xs ys : Array Value} {p : Prop} [Decidable p] (hx : ev r x = .agg xs) (hy : ev r y = .agg ys) (hm : P.eqGuardType P.depth t = false)
    (he : Eq1 P 10000 t (.agg xs) (.agg ys) p) (hw : wantR ⟨some d, .binOp .eql t x y t', ty, pos, aft, g⟩ ops r = true)
    (h : WS P ops Q os (upd r d (.bool (decide p))) w) : WS P ops Q (⟨some d, .binOp .eql t x y t', ty, pos, aft, g⟩ :: os) r w := S.eqlA hx hy hm (he w) hw h
theorem S.neqS {xs ys : Array Value} {p : Prop} [Decidable p] (hx : ev r x = .agg xs) (hy : ev r y = .agg ys) (hm : P.eqGuardType P.depth t = false)
    (he : Eq1 P 10000 t (.agg xs) (.agg ys) p) (hw : wantR ⟨some d, .binOp .neq t x y t', ty, pos, aft, g⟩ ops r = true)
    (h : WS P ops Q os (upd r d (.bool (decide (¬ p)))) w) : WS P ops Q (⟨some d, .binOp .neq t x y t', ty, pos, aft, g⟩ :: os) r w := S.neqA hx hy hm (he w) hw (by rw [← decide_not]; exact h)
theorem S.notD {p : Prop} [Decidable p] (hx : ev r x = .bool (decide p)) (hw : wantR ⟨some d, .unOp .not t x, ty, pos, aft, g⟩ ops r = true)
    (h : WS P ops Q os (upd r d (.bool (decide (¬ p)))) w) : WS P ops Q (⟨some d, .unOp .not t x, ty, pos, aft, g⟩ :: os) r w := S.not hx hw (by rw [← decide_not]; exact h)
/-- The address of an element's field. -/
theorem S.fieldElt {fs : Array Field} {f : Nat} {ad : Addr} {fd : Field} {z : Value} {n b : Nat} (ht : P.underlying t = some (.struct fs)) (hf : fs[f]? = some fd) (hz : TI P fd.type z n b) (hn : Nat.blt 0 n = true)
    (hx : ev r x = .pointer (some ad)) (hw : wantR ⟨some d, .fieldAddr t x f, ty, pos, aft, g⟩ ops r = true)
    (h : WS P ops Q os (upd r d (.pointer (some (ad.add fd.offset)))) w) : WS P ops Q (⟨some d, .fieldAddr t x f, ty, pos, aft, g⟩ :: os) r w :=
  S.fieldAddr ht hf hz (Nat.pos_iff_ne_zero.1 (by simpa using hn)) hx hw h
/-- An element's field is read. -/
theorem S.loadRoF {td : TypeDesc} {ad : Addr} {j : Nat} {cs : List Value} {v : Value} (s : St w R L) (hc : ∀ j c, cs[j]? = some c → roCell R (ad.add j) c) (hv : cs[j]? = some v)
    (ht : P.underlying t = some td) (hta : agB (some td) = false) (hx : ev r x = .pointer (some (ad.add j)))
    (hw : wantR ⟨some d, .load t x, ty, pos, aft, g⟩ ops r = true) (h : WS P ops Q os (upd r d v) w) : WS P ops Q (⟨some d, .load t x, ty, pos, aft, g⟩ :: os) r w :=
  S.load1 ht hta hx (s.roCell (hc j v hv)) hw h
end
section
variable {P : Program} {n : Nat} {ops : Array Oper} {C : World → Prop} {K : Regs → Prop} {r : Regs} {os : List Oper}
  {d : Nat} {ty t t' : TypeId} {pos : String} {aft : Array Edge} {g : Option (Nat × Bool)} {R : Kn} {L : List HP} {x y : Operand}
theorem Q.eqlS {xs ys : Array Value} {p : Prop} [Decidable p] (hx : ev r x = .agg xs) (hy : ev r y = .agg ys) (hm : P.eqGuardType P.depth t = false)
    (he : Eq1 P 10000 t (.agg xs) (.agg ys) p) (hw : wantR ⟨some d, .binOp .eql t x y t', ty, pos, aft, g⟩ ops r = true)
    (h : WQ P ops C K os (upd r d (.bool (decide p)))) : WQ P ops C K (⟨some d, .binOp .eql t x y t', ty, pos, aft, g⟩ :: os) r := Q.eqlA hx hy hm he hw h
theorem Q.neqS {xs ys : Array Value} {p : Prop} [Decidable p] (hx : ev r x = .agg xs) (hy : ev r y = .agg ys) (hm : P.eqGuardType P.depth t = false)
    (he : Eq1 P 10000 t (.agg xs) (.agg ys) p) (hw : wantR ⟨some d, .binOp .neq t x y t', ty, pos, aft, g⟩ ops r = true)
    (h : WQ P ops C K os (upd r d (.bool (decide (¬ p))))) : WQ P ops C K (⟨some d, .binOp .neq t x y t', ty, pos, aft, g⟩ :: os) r := Q.neqA hx hy hm he hw (by rw [← decide_not]; exact h)
theorem Q.notD {p : Prop} [Decidable p] (hx : ev r x = .bool (decide p)) (hw : wantR ⟨some d, .unOp .not t x, ty, pos, aft, g⟩ ops r = true)
    (h : WQ P ops C K os (upd r d (.bool (decide (¬ p))))) : WQ P ops C K (⟨some d, .unOp .not t x, ty, pos, aft, g⟩ :: os) r := Q.not hx hw (by rw [← decide_not]; exact h)
theorem Q.fieldElt {fs : Array Field} {f : Nat} {ad : Addr} {fd : Field} {z : Value} {n b : Nat} (ht : P.underlying t = some (.struct fs)) (hf : fs[f]? = some fd) (hz : TI P fd.type z n b) (hn : Nat.blt 0 n = true)
    (hx : ev r x = .pointer (some ad)) (hw : wantR ⟨some d, .fieldAddr t x f, ty, pos, aft, g⟩ ops r = true)
    (h : WQ P ops C K os (upd r d (.pointer (some (ad.add fd.offset))))) : WQ P ops C K (⟨some d, .fieldAddr t x f, ty, pos, aft, g⟩ :: os) r :=
  Q.fieldAddr ht hf hz (Nat.pos_iff_ne_zero.1 (by simpa using hn)) hx hw h
theorem Q.loadRoF {td : TypeDesc} {ad : Addr} {j : Nat} {cs : List Value} {v : Value} (hc : ∀ j c, cs[j]? = some c → roCell R (ad.add j) c) (hv : cs[j]? = some v)
    (ht : P.underlying t = some td) (hta : agB (some td) = false) (hx : ev r x = .pointer (some (ad.add j)))
    (hw : wantR ⟨some d, .load t x, ty, pos, aft, g⟩ ops r = true) (h : WQ P ops (fun w => St w R L) K os (upd r d v)) : WQ P ops (fun w => St w R L) K (⟨some d, .load t x, ty, pos, aft, g⟩ :: os) r :=
  Q.load1 ht hta hx (fun w s => s.roCell (hc j v hv)) hw h
end

/-! ## rows of pairs -/
def gpE (p : Int × Int) : List Value := [.int .i64 p.1, .int .i64 p.2]
theorem gpE_len {xs : List (Int × Int)} : ∀ x ∈ xs, (gpE x).length = 2 := fun _ _ => rfl
theorem gpE_one {xs : List (Int × Int)} : ∀ x ∈ xs, ∀ u ∈ gpE x, u.oneCell' = true := by
  intro x _ u hu
  simp only [gpE, List.mem_cons, List.not_mem_nil, or_false] at hu
  rcases hu with rfl | rfl <;> rfl

/-! ## what a law is handed -/
section
variable {H : Type} {enc : TypeId × Value → H} {P : Program} {W : World}
theorem mem_weightsEach {n : Nat} : ∀ (ts : List TypeId) (ds : List (DataW H)) (i : Nat) (t : TypeId) (d : DataW H), ts[i]? = some t → ds[i]? = some d → n ∈ DataW.weights P t d → n ∈ DataW.weightsEach P ts ds
  | [], _, _, _, _, h, _, _ => by simp at h
  | _ :: _, [], _, _, _, _, h, _ => by simp at h
  | t' :: ts, d' :: ds, i, t, d, ht, hd, hn => by
    simp only [DataW.weightsEach, List.mem_append]
    cases i with
    | zero => simp at ht hd; subst ht; subst hd; exact .inl hn
    | succ i => exact .inr (mem_weightsEach ts ds i t d (by simpa using ht) (by simpa using hd) hn)
/-- A struct's field. -/
theorem TR.field {t : TypeId} {fs : Array Field} {cs : List Value} {d : DataW H} (hu : P.underlying t = some (.struct fs)) (h : TR enc P W t cs d) (hs : SZ P t d) (i : Nat) {f : Field} (hf : fs[i]? = some f) :
    ∃ d', TR enc P W f.type ((cs.drop f.offset).take (P.cellsOf f.type)) d' ∧ SZ P f.type d' := by
  obtain ⟨fuel, ps, h⟩ := h
  obtain ⟨xs, n, _, hx, hl, hlen, hall⟩ := DataW.trod_struct hu h
  simp only [Prod.mk.injEq] at hx
  obtain ⟨rfl, _⟩ := hx
  have hi : i < xs.length := by rw [hlen]; exact (Array.getElem?_eq_some_iff.1 hf).1
  have h1 := hall i f hf
  rw [List.getElem?_eq_getElem hi] at h1
  refine ⟨xs[i].1, ⟨n, xs[i].2, h1⟩, fun m hm => hs m ?_⟩
  simp only [DataW.weights, hu]
  exact mem_weightsEach _ _ i f.type xs[i].1 (by rw [List.getElem?_map]; rw [← Array.getElem?_toList] at hf; rw [hf]; rfl) (by rw [List.getElem?_map, List.getElem?_eq_getElem hi]; rfl) hm
theorem TR.cells {t : TypeId} {fs : Array Field} {cs : List Value} {d : DataW H} (hu : P.underlying t = some (.struct fs)) (h : TR enc P W t cs d) : cs.length = P.cellsOf t := by
  obtain ⟨fuel, ps, h⟩ := h
  obtain ⟨xs, n, _, hx, hl, hlen, hall⟩ := DataW.trod_struct hu h
  exact hl
theorem TR.pair {t : TypeId} {f0 f1 : Field} {k0 k1 : IntKind} {cs : List Value} {d : DataW H} (hu : P.underlying t = some (.struct #[f0, f1])) (h0 : P.underlying f0.type = some (.int k0)) (h1 : P.underlying f1.type = some (.int k1))
    (o0 : f0.offset = 0) (o1 : f1.offset = 1) (c0 : P.cellsOf f0.type = 1) (c1 : P.cellsOf f1.type = 1) (ct : P.cellsOf t = 2) (h : TR enc P W t cs d) (hs : SZ P t d) : ∃ a b, cs = [.int k0 a, .int k1 b] ∧ wfI k0 a ∧ wfI k1 b := by
  have hl := h.cells hu
  obtain ⟨d0, h2, _⟩ := h.field hu hs 0 (f := f0) rfl
  obtain ⟨d1, h3, _⟩ := h.field hu hs 1 (f := f1) rfl
  obtain ⟨a, h4, h5⟩ := h2.int h0
  obtain ⟨b, h6, h7⟩ := h3.int h1
  rw [o0, c0] at h4
  rw [o1, c1] at h6
  rw [ct] at hl
  match cs, hl with
  | [x, y], _ =>
    simp at h4 h6
    exact ⟨a, b, by rw [h4, h6], h5, h7⟩
theorem TR.pairs {t e : TypeId} {f0 f1 : Field} {cs : List Value} {d : DataW H} (hu : P.underlying t = some (.slice e)) (he : P.underlying e = some (.struct #[f0, f1])) (h0 : P.underlying f0.type = some (.int .i64)) (h1 : P.underlying f1.type = some (.int .i64))
    (o0 : f0.offset = 0) (o1 : f1.offset = 1) (c0 : P.cellsOf f0.type = 1) (c1 : P.cellsOf f1.type = 1) (ct : P.cellsOf e = 2) (h : TR enc P W t cs d) (hs : SZ P t d) :
    ∃ v, ∃ xs : List (Int × Int), cs = [v] ∧ Ro (knAll W) gpE 2 v xs ∧ (∀ x ∈ xs, wfI .i64 x.1 ∧ wfI .i64 x.2) ∧ xs.length * P.bytesOf e ≤ reachBytes := by
  obtain ⟨v, xs, g1, g2, g3, g4⟩ := h.slice hu (by rw [ct]; decide) hs
  rw [ct] at g2
  obtain ⟨ys, g5, g6⟩ := B.typed (e2 := gpE) (fun y _ => wfI .i64 y.1 ∧ wfI .i64 y.2) xs (fun x hx => by
    obtain ⟨a, b, q1, q2, q3⟩ := (g3 x hx).1.pair he h0 h1 o0 o1 c0 c1 ct (g3 x hx).2
    exact ⟨(a, b), q1, q2, q3⟩)
  have hl : xs.length = ys.length := by have := congrArg List.length g5; simpa using this
  exact ⟨v, ys, g1, g2.typed g5, fun y hy => let ⟨_, _, q⟩ := g6 y hy; q, by rw [← hl]; exact g4⟩
end
end Go.Proofs.Ytiffedgmageiaaa.B

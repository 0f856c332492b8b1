/- Registers as functions, the rules of code over them, and memory as owned pieces beside what never changes. -/
import Derived.Calls
import Derived.Below
import Derived.Laws.AppendOwn
namespace Go.Proofs.Ytiffedgmageiaaa.B
set_option linter.unusedVariables false

/-! ## registers -/
abbrev Regs := Nat → Value
def upd (r : Regs) (d : Nat) (v : Value) : Regs := fun t => bif Nat.beq t d then v else r t
def updO (r : Regs) (d : Option Nat) (v : Value) : Regs := match d with | some d => upd r d v | none => r
def ev (r : Regs) : Operand → Value
  | .tmp t => r t
  | .const v => v
  | .global g => .pointer (some ⟨g, 0, none⟩)
  | .func f => .func (.func f) #[] #[]

theorem upd_same (r : Regs) (d : Nat) (v : Value) : upd r d v d = v := by simp [upd]
theorem upd_ne (r : Regs) {d t : Nat} (v : Value) (h : t ≠ d) : upd r d v t = r t := by
  have : Nat.beq t d = false := Bool.eq_false_iff.2 (fun e => h (Nat.eq_of_beq_eq_true e))
  simp [upd, this]
theorem upd_self {r : Regs} {d : Nat} {v : Value} (h : r d = v) : upd r d v = r := by
  funext t
  by_cases e : t = d
  · subst e; rw [upd_same, h]
  · rw [upd_ne _ _ e]
/-- A register whose value is known: the registers are others with that one set. -/
theorem back {r : Regs} {d : Nat} {v : Value} (h : r d = v) : ∃ r0, r = upd r0 d v := ⟨r, (upd_self h).symm⟩

structure RA (n : Nat) (a : Act) (r : Regs) : Prop where
  size : a.tmps.size = n
  get : ∀ t, a.tmps.getD t undef = r t
  dfr : a.defers = []

theorem RA.ev {n : Nat} {a : Act} {r : Regs} (h : RA n a r) : a.eval = ev r := by
  funext x
  cases x with
  | tmp t => exact h.get t
  | const v => rfl
  | global g => rfl
  | func f => rfl

def dstOK (n : Nat) (d : Option Nat) : Bool := match d with | some d => Nat.blt d n | none => true

theorem RA.put {n : Nat} {a : Act} {r : Regs} (h : RA n a r) {d : Option Nat} (hd : dstOK n d = true) (v : Value) : RA n (a.put d v) (updO r d v) := by
  cases d with
  | none => exact h
  | some d =>
    have hd' : d < n := by simpa [dstOK, Nat.blt_eq] using hd
    refine ⟨by simp [Act.put, h.size], fun t => ?_, h.dfr⟩
    by_cases e : t = d
    · subst e
      simp [Act.put, updO, upd_same, Array.getD, h.size, hd']
    · have hg := h.get t
      simp only [Act.put, updO, upd_ne _ _ e]
      rw [← hg]
      simp only [Array.getD, Array.size_setIfInBounds]
      split
      · rename_i ht
        simp only [Array.getInternal_eq_getElem]
        rw [Array.getElem_setIfInBounds_ne (h := fun e' => e e'.symm)]
      · rfl

/-! ## code -/
def WR (P : Program) (n : Nat) (c : Code) (Q : Exit → Regs → World → Prop) (r : Regs) (w : World) : Prop :=
  ∀ a, RA n a r → c.wp P (fun e a' w' => ∃ r', RA n a' r' ∧ Q e r' w') a w

abbrev thenR (next : Regs → World → Prop) (Q : Exit → Regs → World → Prop) : Exit → Regs → World → Prop
  | .normal, r, w => next r w
  | e, r, w => Q e r w
abbrev blockR (id : Nat) (Q : Exit → Regs → World → Prop) : Exit → Regs → World → Prop
  | .exit id', r, w => bif Nat.beq id' id then Q .normal r w else Q (.exit id') r w
  | e, r, w => Q e r w

section
variable {P : Program} {n : Nat} {Q : Exit → Regs → World → Prop} {r : Regs} {w : World}

theorem WR.mono {c : Code} {Q' : Exit → Regs → World → Prop} (h : WR P n c Q r w) (hq : ∀ e r w, Q e r w → Q' e r w) : WR P n c Q' r w :=
  fun a ha => wp_mono (h a ha) fun e a' w' ⟨r', h1, h2⟩ => ⟨r', h1, hq _ _ _ h2⟩
theorem WR.skip (h : Q .normal r w) : WR P n .skip Q r w := fun _ ha => wp_skip ⟨_, ha, h⟩
theorem WR.ret (h : Q .ret r w) : WR P n .ret Q r w := fun _ ha => wp_ret ⟨_, ha, h⟩
theorem WR.exit {id : Nat} (h : Q (.exit id) r w) : WR P n (.exit id) Q r w := fun _ ha => wp_exit ⟨_, ha, h⟩
theorem WR.goto {l : Nat} (h : Q (.goto l) r w) : WR P n (.goto l) Q r w := fun _ ha => wp_goto ⟨_, ha, h⟩
theorem WR.label {l : Nat} (h : Q .normal r w) : WR P n (.label l) Q r w := fun _ ha => wp_label ⟨_, ha, h⟩
theorem WR.seq {x y : Code} (h : WR P n x (thenR (WR P n y Q) Q) r w) : WR P n (.seq x y) Q r w := by
  intro a ha
  refine wp_seq (wp_mono (h a ha) ?_)
  rintro e a' w' ⟨r', h1, h2⟩
  cases e with
  | normal => exact h2 a' h1
  | exit id => exact ⟨r', h1, h2⟩
  | goto l => exact ⟨r', h1, h2⟩
  | ret => exact ⟨r', h1, h2⟩
  | panic c => exact ⟨r', h1, h2⟩
  | outgrown => exact ⟨r', h1, h2⟩
theorem WR.block {id : Nat} {c : Code} (h : WR P n c (blockR id Q) r w) : WR P n (.block id c) Q r w := by
  intro a ha
  refine wp_block (wp_mono (h a ha) ?_)
  rintro e a' w' ⟨r', h1, h2⟩
  cases e with
  | exit id' =>
    by_cases hid : id' = id
    · subst hid
      simp only [Exit.inBlock, if_true]
      simp only [blockR, Nat.beq_refl, cond_true] at h2
      exact ⟨r', h1, h2⟩
    · simp only [Exit.inBlock, if_neg hid]
      have : Nat.beq id' id = false := Bool.eq_false_iff.2 (fun e => hid (Nat.eq_of_beq_eq_true e))
      simp only [blockR, this, cond_false] at h2
      exact ⟨r', h1, h2⟩
  | normal => exact ⟨r', h1, h2⟩
  | goto l => exact ⟨r', h1, h2⟩
  | ret => exact ⟨r', h1, h2⟩
  | panic c => exact ⟨r', h1, h2⟩
  | outgrown => exact ⟨r', h1, h2⟩
theorem WR.cond {c : Operand} {x y : Code} {t : Bool} (hc : ev r c = .bool t) (ht : t = true → WR P n x Q r w) (hf : t = false → WR P n y Q r w) : WR P n (.cond c x y) Q r w := by
  intro a ha
  exact wp_cond_split (t := t) (by rw [ha.ev]; exact hc) (fun e => ht e a ha) (fun e => hf e a ha)
theorem WR.condD {c : Operand} {x y : Code} {p : Prop} [Decidable p] (hc : ev r c = .bool (decide p)) (ht : p → WR P n x Q r w) (hf : ¬ p → WR P n y Q r w) : WR P n (.cond c x y) Q r w :=
  WR.cond hc (fun e => ht (by simpa using e)) (fun e => hf (by simpa using e))
theorem WR.condT {c : Operand} {x y : Code} (hc : ev r c = .bool true) (h : WR P n x Q r w) : WR P n (.cond c x y) Q r w :=
  WR.cond hc (fun _ => h) (fun e => by cases e)
theorem WR.condF {c : Operand} {x y : Code} (hc : ev r c = .bool false) (h : WR P n y Q r w) : WR P n (.cond c x y) Q r w :=
  WR.cond hc (fun e => by cases e) (fun _ => h)
/-- A loop: what holds at each round's head, and a measure. -/
theorem WR.loop {c : Code} (I : Nat → Regs → World → Prop) {m0 : Nat} (h0 : I m0 r w)
    (round : ∀ m r w, I m r w → WR P n c (thenR (fun r' w' => ∃ m', m' < m ∧ I m' r' w') Q) r w) : WR P n (.loop c) Q r w := by
  intro a ha b k cs
  have key : ∀ m a r w, RA n a r → I m r w → ∃ e a' w', (∃ r', RA n a' r' ∧ Q e r' w') ∧ Arrives P (lone (b.at a (.code c :: .inLoop c :: k)) cs w) b k cs e a' w' := by
    intro m
    induction m using Nat.strongRecOn with
    | _ m ih =>
      intro a r w ha hI
      obtain ⟨e, a₁, w₁, ⟨r₁, ha₁, hq⟩, harr⟩ := round m r w hI a ha b (.inLoop c :: k) cs
      cases e with
      | normal =>
        obtain ⟨m', hlt, hI'⟩ := hq
        obtain ⟨e₂, a₂, w₂, hq₂, harr₂⟩ := ih m' hlt a₁ r₁ w₁ ha₁ hI'
        exact ⟨e₂, a₂, w₂, hq₂, .of_steps (Steps.trans harr (.one step_inLoop)) harr₂⟩
      | exit id => exact ⟨_, a₁, w₁, ⟨r₁, ha₁, hq⟩, .pass (x := .inLoop c) rfl (fun _ _ => .inl (by simp)) harr⟩
      | goto l => exact ⟨_, a₁, w₁, ⟨r₁, ha₁, hq⟩, .pass (x := .inLoop c) rfl (fun _ _ => .inl (by simp)) harr⟩
      | ret => exact ⟨_, a₁, w₁, ⟨r₁, ha₁, hq⟩, .pass (x := .inLoop c) rfl (fun _ _ => .inl (by simp)) harr⟩
      | panic ch => exact ⟨_, a₁, w₁, ⟨r₁, ha₁, hq⟩, .pass (x := .inLoop c) rfl (fun _ _ => .inl (by simp)) harr⟩
      | outgrown => exact ⟨_, a₁, w₁, ⟨r₁, ha₁, hq⟩, .pass (x := .inLoop c) rfl (fun _ _ => .inl (by simp)) harr⟩
  obtain ⟨e, a', w', hq, harr⟩ := key m0 a r w ha h0
  exact ⟨e, a', w', hq, .of_steps (.one step_loop) harr⟩
end
end Go.Proofs.Ytiffedgmageiaaa.B
namespace Go.Proofs.Ytiffedgmageiaaa.B
set_option linter.unusedVariables false

/-! ## calls -/
/-- The call returns, and what it returns and leaves is so. -/
def Fn (P : Program) (f : FuncId) (args : Array Value) (w : World) (Post : Value → World → Prop) : Prop :=
  Calls P f args w fun e w' => ∃ v, e = .returned v ∧ Post v w'

theorem Fn.mono {P : Program} {f : FuncId} {args : Array Value} {w : World} {A B : Value → World → Prop} (h : Fn P f args w A) (hab : ∀ v w', A v w' → B v w') : Fn P f args w B :=
  Calls.mono h fun _ _ ⟨v, e, hv⟩ => ⟨v, e, hab _ _ hv⟩

def regs0 (args : Array Value) : Regs := fun t => args.getD t undef
theorem regs0_RA (n : Nat) (args : Array Value) (h : args.size ≤ n) : RA n { tmps := args ++ Array.replicate (n - args.size) undef, defers := [] } (regs0 args) := by
  refine ⟨by simp; omega, fun t => ?_, rfl⟩
  simp only [regs0, Array.getD]
  by_cases ht : t < args.size
  · simp only [Array.size_append, Array.size_replicate, ht, show t < args.size + (n - args.size) by omega, dif_pos, Array.getInternal_eq_getElem]
    rw [Array.getElem_append_left ht]
  · simp only [ht, dif_neg, not_false_eq_true, Array.size_append, Array.size_replicate]
    split
    · simp only [Array.getInternal_eq_getElem]
      rw [Array.getElem_append_right (by omega)]
      simp
    · rfl

/-- What a result's place holds. -/
def resOne (P : Program) (r : Regs) (w : World) : ResultVar → Value → Prop
  | .tmp t, v => v = r t
  | .cell a t, v => ∃ ad, r a = .pointer (some ad) ∧ (loadVar t ad).run P w = .ok v w
def resAll (P : Program) (r : Regs) (w : World) : List ResultVar → List Value → Prop
  | [], [] => True
  | x :: xs, v :: vs => resOne P r w x v ∧ resAll P r w xs vs
  | _, _ => False
def tup : List Value → Value
  | [v] => v
  | vs => .tuple vs.toArray
def retQ (P : Program) (fn : Func) (Post : Value → World → Prop) : Exit → Regs → World → Prop
  | .normal, r, w | .ret, r, w => ∃ vs, resAll P r w fn.results.toList vs ∧ Post (tup vs) w
  | _, _, _ => False

theorem run_results {P : Program} {r : Regs} {w : World} {n : Nat} {a : Act} (ha : RA n a r) (fn : Func) (vs : List Value) (h : resAll P r w fn.results.toList vs) :
    (results fn a.tmps).run P w = .ok (tup vs) w := by
  have key : ∀ (xs : List ResultVar) (vs : List Value), resAll P r w xs vs →
      (xs.mapM (m := Sem) fun
        | .tmp t => pure (r t)
        | .cell a' t => do loadVar t (← asAddr (r a'))).run P w = .ok vs w := by
    intro xs
    induction xs with
    | nil => intro vs h; cases vs with
      | nil => rfl
      | cons v vs => exact h.elim
    | cons x xs ih =>
      intro vs h
      cases vs with
      | nil => exact h.elim
      | cons v vs =>
        obtain ⟨h1, h2⟩ := h
        have h2' := ih vs h2
        cases x with
        | tmp t =>
          simp only [resOne] at h1
          rw [List.mapM_cons]
          simp only [pure_bind, Sem.run_bind, h2', Result.andThen_ok, ← h1, Sem.run_pure]
        | cell a' t =>
          obtain ⟨ad, h3, h4⟩ := h1
          have hx : asAddr (r a') = pure ad := by rw [h3]; rfl
          rw [List.mapM_cons]
          simp only [hx, pure_bind, Sem.run_bind, h4, h2', Result.andThen_ok, Sem.run_pure]
  have hk := key _ _ h
  unfold results
  simp only [ha.get]
  rw [Array.mapM_eq_mapM_toList]
  simp only [Sem.run_bind, map_eq_pure_bind, Sem.run_pure]
  refine Eq.trans (congrArg (fun (x : Result (List Value)) => (x.andThen fun a w' => Result.ok a.toArray w').andThen fun a w' => Result.ok (if h : a.size = 1 then a[0] else Value.tuple a) w') hk) ?_
  simp only [Result.andThen_ok]
  congr 1
  match vs with
  | [] => rfl
  | [v] => rfl
  | v :: u :: vs => simp [tup]

theorem Fn.intro {P : Program} {f : FuncId} {fn : Func} {c : Code} {n : Nat} {args : Array Value} {w : World} {Post : Value → World → Prop}
    (hf : P.funcs[f]? = some fn) (hb : fn.body = some c) (hn : fn.ntmps = n) (hs : Nat.ble args.size n = true)
    (h : WR P n c (retQ P fn Post) (regs0 args) w) : Fn P f args w Post := by
  subst hn
  have hs' : args.size ≤ fn.ntmps := by simpa using hs
  refine calls_of_wp hf hb (wp_mono (h _ (regs0_RA _ _ hs')) ?_)
  rintro e a' w' ⟨r', h1, h2⟩
  cases e with
  | normal => obtain ⟨vs, h3, h4⟩ := h2; exact ⟨h1.dfr, _, run_results h1 _ _ h3, _, rfl, h4⟩
  | ret => obtain ⟨vs, h3, h4⟩ := h2; exact ⟨h1.dfr, _, run_results h1 _ _ h3, _, rfl, h4⟩
  | exit id => exact h2.elim
  | goto l => exact h2.elim
  | panic c => exact h2.elim
  | outgrown => exact h2.elim

/-! ## one operation -/
def ROp (P : Program) (o : Oper) (ρ : Operand → Value) (w : World) (K : Value → World → Prop) : Prop :=
  match (execOp ρ o).run P w with
  | .ok (.value v) w' => K v w'
  | .ok .skip w' => K undef w'
  | .ok (.enter f args) w' => Fn P f args w' K
  | _ => False

theorem ROp.mono {P : Program} {o : Oper} {ρ : Operand → Value} {w : World} {K K' : Value → World → Prop} (h : ROp P o ρ w K) (hk : ∀ v w', K v w' → K' v w') : ROp P o ρ w K' := by
  unfold ROp at *
  split at h
  · exact hk _ _ h
  · exact hk _ _ h
  · exact h.mono hk
  · exact h.elim

theorem ROp.wp {P : Program} {o : Oper} {a : Act} {w : World} {K : Value → World → Prop} {next : Act → World → Prop} {Q : Exit → Act → World → Prop}
    (h : ROp P o a.eval w K) (hk : ∀ v w', K v w' → next (a.put o.dst v) w') : o.wp P a w next Q := by
  unfold ROp at h
  unfold Oper.wp
  generalize (execOp a.eval o).run P w = res at h ⊢
  split at h
  · exact hk _ _ h
  · exact hk _ _ h
  · refine Calls.mono h ?_
    rintro e w' ⟨v, rfl, hv⟩
    exact hk _ _ hv
  · exact h.elim

/-! ## a region in the text's order -/
def wantR (o : Oper) (ops : Array Oper) (r : Regs) : Bool :=
  match o.guard with
  | none => true
  | some (j, want) => match (ops[j]?).bind (·.dst) with
    | some d => match r d with | .bool b => b == want | _ => false
    | none => false

theorem want_eq {n : Nat} {a : Act} {r : Regs} (ha : RA n a r) (ops : Array Oper) (hd : ops.all (fun o => dstOK n o.dst) = true) (o : Oper) :
    Region.wanted o (yielded ops a.tmps) = wantR o ops r := by
  unfold Region.wanted wantR yielded
  cases hg : o.guard with
  | none => rfl
  | some g =>
    obtain ⟨j, want⟩ := g
    simp only
    cases hj : (ops[j]?).bind (·.dst) with
    | none => rfl
    | some d =>
      simp only [Option.bind_some]
      obtain ⟨oj, hoj, hdj⟩ : ∃ oj, ops[j]? = some oj ∧ oj.dst = some d := by
        cases h : ops[j]? with
        | none => simp [h] at hj
        | some oj => exact ⟨oj, rfl, by simpa [h] using hj⟩
      have hdn : d < n := by
        have := Array.all_eq_true_iff_forall_mem.1 hd oj (Array.mem_of_getElem? hoj)
        simpa [dstOK, hdj, Nat.blt_eq] using this
      have hg2 := ha.get d
      have hget : a.tmps[d]? = some (r d) := by
        rw [← hg2, Array.getD_eq_getD_getElem?]
        have : d < a.tmps.size := by rw [ha.size]; exact hdn
        simp [this]
      rw [hget]
      cases r d <;> simp

def WS (P : Program) (ops : Array Oper) (Q : Exit → Regs → World → Prop) : List Oper → Regs → World → Prop
  | [], r, w => Q .normal r w
  | o :: os, r, w => bif wantR o ops r then ROp P o (ev r) w (fun v w' => WS P ops Q os (updO r o.dst v) w') else WS P ops Q os (updO r o.dst undef) w

theorem WS.sound {P : Program} {n : Nat} {ops : Array Oper} {Q : Exit → Regs → World → Prop} (hd : ops.all (fun o => dstOK n o.dst) = true) :
    ∀ (os pre : List Oper) (_ : ops.toList = pre ++ os) (r : Regs) (w : World) (a : Act), RA n a r → WS P ops Q os r w →
      wpOps P ops (fun e a' w' => ∃ r', RA n a' r' ∧ Q e r' w') (List.range' pre.length os.length) a w := by
  intro os
  induction os with
  | nil => intro pre _ r w a ha h; exact ⟨r, ha, h⟩
  | cons o os ih =>
    intro pre hp r w a ha h
    have hi : ops[pre.length]? = some o := by rw [← Array.getElem?_toList, hp]; simp
    have hdo : dstOK n o.dst = true := Array.all_eq_true_iff_forall_mem.1 hd o (Array.mem_of_getElem? hi)
    have hih := ih (pre ++ [o]) (by rw [hp]; simp)
    rw [List.length_append, List.length_singleton] at hih
    rw [List.length_cons, List.range'_succ]
    unfold wpOps
    simp only [hi]
    rw [want_eq ha ops hd]
    unfold WS at h
    cases hw : wantR o ops r with
    | true =>
      rw [hw] at h
      simp only [if_true]
      refine .inl (ROp.wp (K := fun v w' => WS P ops Q os (updO r o.dst v) w') (by rw [ha.ev]; exact h) ?_)
      intro v w' hv
      exact hih _ _ _ (ha.put hdo v) hv
    | false =>
      rw [hw] at h
      simp only [Bool.false_eq_true, if_false]
      exact hih _ _ _ (ha.put hdo undef) h

theorem WR.region {P : Program} {n : Nat} {id : Nat} {ops : Array Oper} {Q : Exit → Regs → World → Prop} {r : Regs} {w : World}
    (hd' : ops.toList.all (fun o => dstOK n o.dst) = true) (h : WS P ops Q ops.toList r w) : WR P n (.region id ops false) Q r w := by
  have hd : ops.all (fun o => dstOK n o.dst) = true := by rwa [← Array.all_toList]
  intro a ha
  refine wp_region ?_
  have := WS.sound (P := P) (Q := Q) hd ops.toList [] rfl r w a ha h
  rwa [List.length_nil, Array.length_toList, ← List.range_eq_range'] at this

section
variable {P : Program} {ops : Array Oper} {Q : Exit → Regs → World → Prop} {r : Regs} {w : World} {os : List Oper}
theorem WS.op {o : Oper} (hw : wantR o ops r = true) (h : ROp P o (ev r) w (fun v w' => WS P ops Q os (updO r o.dst v) w')) : WS P ops Q (o :: os) r w := by
  unfold WS; rw [hw]; exact h
theorem WS.off {o : Oper} (hw : wantR o ops r = false) (h : WS P ops Q os (updO r o.dst undef) w) : WS P ops Q (o :: os) r w := by
  unfold WS; rw [hw]; exact h
theorem WS.done (h : Q .normal r w) : WS P ops Q [] r w := h
end
end Go.Proofs.Ytiffedgmageiaaa.B
namespace Go.Proofs.Ytiffedgmageiaaa.B
set_option linter.unusedVariables false
section
variable {P : Program} {n : Nat} {Q : Exit → Regs → World → Prop} {r : Regs} {w : World}
/-- A loop; what holds at each round's head may name the registers before it. -/
theorem WR.loopE {c : Code} (I : Regs → Nat → Regs → World → Prop) {m0 : Nat} (h0 : I r m0 r w)
    (round : ∀ m r1 w1, I r m r1 w1 → WR P n c (thenR (fun r' w' => ∃ m', m' < m ∧ I r m' r' w') Q) r1 w1) : WR P n (.loop c) Q r w :=
  WR.loop (I r) h0 round
theorem retMk {fn : Func} {Post : Value → World → Prop} (vs : List Value) (h : resAll P r w fn.results.toList vs) (hp : Post (tup vs) w) : retQ P fn Post .ret r w := ⟨vs, h, hp⟩
theorem retMkN {fn : Func} {Post : Value → World → Prop} (vs : List Value) (h : resAll P r w fn.results.toList vs) (hp : Post (tup vs) w) : retQ P fn Post .normal r w := ⟨vs, h, hp⟩
/-- A piece of code is cut off: what holds behind it. -/
theorem WR.cut {x y : Code} (J : Regs → World → Prop) (h : WR P n x (thenR J Q) r w) (h2 : ∀ r w, J r w → WR P n y Q r w) : WR P n (.seq x y) Q r w :=
  WR.seq (WR.mono h fun e r w hq => by cases e <;> first | exact h2 _ _ hq | exact hq)
end
theorem back1 {r : Regs} {d0 : Nat} {v0 : Value} (h0 : r d0 = v0) : ∃ r0, r = upd r0 d0 v0 := ⟨r, by rw [upd_self h0]⟩
theorem back2 {r : Regs} {d0 d1 : Nat} {v0 v1 : Value} (h0 : r d0 = v0) (h1 : r d1 = v1) : ∃ r0, r = upd (upd r0 d0 v0) d1 v1 := ⟨r, by rw [upd_self h0, upd_self h1]⟩
theorem back3 {r : Regs} {d0 d1 d2 : Nat} {v0 v1 v2 : Value} (h0 : r d0 = v0) (h1 : r d1 = v1) (h2 : r d2 = v2) : ∃ r0, r = upd (upd (upd r0 d0 v0) d1 v1) d2 v2 := ⟨r, by rw [upd_self h0, upd_self h1, upd_self h2]⟩
theorem back4 {r : Regs} {d0 d1 d2 d3 : Nat} {v0 v1 v2 v3 : Value} (h0 : r d0 = v0) (h1 : r d1 = v1) (h2 : r d2 = v2) (h3 : r d3 = v3) : ∃ r0, r = upd (upd (upd (upd r0 d0 v0) d1 v1) d2 v2) d3 v3 := ⟨r, by rw [upd_self h0, upd_self h1, upd_self h2, upd_self h3]⟩
theorem back5 {r : Regs} {d0 d1 d2 d3 d4 : Nat} {v0 v1 v2 v3 v4 : Value} (h0 : r d0 = v0) (h1 : r d1 = v1) (h2 : r d2 = v2) (h3 : r d3 = v3) (h4 : r d4 = v4) : ∃ r0, r = upd (upd (upd (upd (upd r0 d0 v0) d1 v1) d2 v2) d3 v3) d4 v4 := ⟨r, by rw [upd_self h0, upd_self h1, upd_self h2, upd_self h3, upd_self h4]⟩
theorem back6 {r : Regs} {d0 d1 d2 d3 d4 d5 : Nat} {v0 v1 v2 v3 v4 v5 : Value} (h0 : r d0 = v0) (h1 : r d1 = v1) (h2 : r d2 = v2) (h3 : r d3 = v3) (h4 : r d4 = v4) (h5 : r d5 = v5) : ∃ r0, r = upd (upd (upd (upd (upd (upd r0 d0 v0) d1 v1) d2 v2) d3 v3) d4 v4) d5 v5 := ⟨r, by rw [upd_self h0, upd_self h1, upd_self h2, upd_self h3, upd_self h4, upd_self h5]⟩
theorem back7 {r : Regs} {d0 d1 d2 d3 d4 d5 d6 : Nat} {v0 v1 v2 v3 v4 v5 v6 : Value} (h0 : r d0 = v0) (h1 : r d1 = v1) (h2 : r d2 = v2) (h3 : r d3 = v3) (h4 : r d4 = v4) (h5 : r d5 = v5) (h6 : r d6 = v6) : ∃ r0, r = upd (upd (upd (upd (upd (upd (upd r0 d0 v0) d1 v1) d2 v2) d3 v3) d4 v4) d5 v5) d6 v6 := ⟨r, by rw [upd_self h0, upd_self h1, upd_self h2, upd_self h3, upd_self h4, upd_self h5, upd_self h6]⟩
theorem back8 {r : Regs} {d0 d1 d2 d3 d4 d5 d6 d7 : Nat} {v0 v1 v2 v3 v4 v5 v6 v7 : Value} (h0 : r d0 = v0) (h1 : r d1 = v1) (h2 : r d2 = v2) (h3 : r d3 = v3) (h4 : r d4 = v4) (h5 : r d5 = v5) (h6 : r d6 = v6) (h7 : r d7 = v7) : ∃ r0, r = upd (upd (upd (upd (upd (upd (upd (upd r0 d0 v0) d1 v1) d2 v2) d3 v3) d4 v4) d5 v5) d6 v6) d7 v7 := ⟨r, by rw [upd_self h0, upd_self h1, upd_self h2, upd_self h3, upd_self h4, upd_self h5, upd_self h6, upd_self h7]⟩
theorem back9 {r : Regs} {d0 d1 d2 d3 d4 d5 d6 d7 d8 : Nat} {v0 v1 v2 v3 v4 v5 v6 v7 v8 : Value} (h0 : r d0 = v0) (h1 : r d1 = v1) (h2 : r d2 = v2) (h3 : r d3 = v3) (h4 : r d4 = v4) (h5 : r d5 = v5) (h6 : r d6 = v6) (h7 : r d7 = v7) (h8 : r d8 = v8) : ∃ r0, r = upd (upd (upd (upd (upd (upd (upd (upd (upd r0 d0 v0) d1 v1) d2 v2) d3 v3) d4 v4) d5 v5) d6 v6) d7 v7) d8 v8 := ⟨r, by rw [upd_self h0, upd_self h1, upd_self h2, upd_self h3, upd_self h4, upd_self h5, upd_self h6, upd_self h7, upd_self h8]⟩
theorem back10 {r : Regs} {d0 d1 d2 d3 d4 d5 d6 d7 d8 d9 : Nat} {v0 v1 v2 v3 v4 v5 v6 v7 v8 v9 : Value} (h0 : r d0 = v0) (h1 : r d1 = v1) (h2 : r d2 = v2) (h3 : r d3 = v3) (h4 : r d4 = v4) (h5 : r d5 = v5) (h6 : r d6 = v6) (h7 : r d7 = v7) (h8 : r d8 = v8) (h9 : r d9 = v9) : ∃ r0, r = upd (upd (upd (upd (upd (upd (upd (upd (upd (upd r0 d0 v0) d1 v1) d2 v2) d3 v3) d4 v4) d5 v5) d6 v6) d7 v7) d8 v8) d9 v9 := ⟨r, by rw [upd_self h0, upd_self h1, upd_self h2, upd_self h3, upd_self h4, upd_self h5, upd_self h6, upd_self h7, upd_self h8, upd_self h9]⟩
theorem back11 {r : Regs} {d0 d1 d2 d3 d4 d5 d6 d7 d8 d9 d10 : Nat} {v0 v1 v2 v3 v4 v5 v6 v7 v8 v9 v10 : Value} (h0 : r d0 = v0) (h1 : r d1 = v1) (h2 : r d2 = v2) (h3 : r d3 = v3) (h4 : r d4 = v4) (h5 : r d5 = v5) (h6 : r d6 = v6) (h7 : r d7 = v7) (h8 : r d8 = v8) (h9 : r d9 = v9) (h10 : r d10 = v10) : ∃ r0, r = upd (upd (upd (upd (upd (upd (upd (upd (upd (upd (upd r0 d0 v0) d1 v1) d2 v2) d3 v3) d4 v4) d5 v5) d6 v6) d7 v7) d8 v8) d9 v9) d10 v10 := ⟨r, by rw [upd_self h0, upd_self h1, upd_self h2, upd_self h3, upd_self h4, upd_self h5, upd_self h6, upd_self h7, upd_self h8, upd_self h9, upd_self h10]⟩
theorem back12 {r : Regs} {d0 d1 d2 d3 d4 d5 d6 d7 d8 d9 d10 d11 : Nat} {v0 v1 v2 v3 v4 v5 v6 v7 v8 v9 v10 v11 : Value} (h0 : r d0 = v0) (h1 : r d1 = v1) (h2 : r d2 = v2) (h3 : r d3 = v3) (h4 : r d4 = v4) (h5 : r d5 = v5) (h6 : r d6 = v6) (h7 : r d7 = v7) (h8 : r d8 = v8) (h9 : r d9 = v9) (h10 : r d10 = v10) (h11 : r d11 = v11) : ∃ r0, r = upd (upd (upd (upd (upd (upd (upd (upd (upd (upd (upd (upd r0 d0 v0) d1 v1) d2 v2) d3 v3) d4 v4) d5 v5) d6 v6) d7 v7) d8 v8) d9 v9) d10 v10) d11 v11 := ⟨r, by rw [upd_self h0, upd_self h1, upd_self h2, upd_self h3, upd_self h4, upd_self h5, upd_self h6, upd_self h7, upd_self h8, upd_self h9, upd_self h10, upd_self h11]⟩
theorem back13 {r : Regs} {d0 d1 d2 d3 d4 d5 d6 d7 d8 d9 d10 d11 d12 : Nat} {v0 v1 v2 v3 v4 v5 v6 v7 v8 v9 v10 v11 v12 : Value} (h0 : r d0 = v0) (h1 : r d1 = v1) (h2 : r d2 = v2) (h3 : r d3 = v3) (h4 : r d4 = v4) (h5 : r d5 = v5) (h6 : r d6 = v6) (h7 : r d7 = v7) (h8 : r d8 = v8) (h9 : r d9 = v9) (h10 : r d10 = v10) (h11 : r d11 = v11) (h12 : r d12 = v12) : ∃ r0, r = upd (upd (upd (upd (upd (upd (upd (upd (upd (upd (upd (upd (upd r0 d0 v0) d1 v1) d2 v2) d3 v3) d4 v4) d5 v5) d6 v6) d7 v7) d8 v8) d9 v9) d10 v10) d11 v11) d12 v12 := ⟨r, by rw [upd_self h0, upd_self h1, upd_self h2, upd_self h3, upd_self h4, upd_self h5, upd_self h6, upd_self h7, upd_self h8, upd_self h9, upd_self h10, upd_self h11, upd_self h12]⟩
theorem back14 {r : Regs} {d0 d1 d2 d3 d4 d5 d6 d7 d8 d9 d10 d11 d12 d13 : Nat} {v0 v1 v2 v3 v4 v5 v6 v7 v8 v9 v10 v11 v12 v13 : Value} (h0 : r d0 = v0) (h1 : r d1 = v1) (h2 : r d2 = v2) (h3 : r d3 = v3) (h4 : r d4 = v4) (h5 : r d5 = v5) (h6 : r d6 = v6) (h7 : r d7 = v7) (h8 : r d8 = v8) (h9 : r d9 = v9) (h10 : r d10 = v10) (h11 : r d11 = v11) (h12 : r d12 = v12) (h13 : r d13 = v13) : ∃ r0, r = upd (upd (upd (upd (upd (upd (upd (upd (upd (upd (upd (upd (upd (upd r0 d0 v0) d1 v1) d2 v2) d3 v3) d4 v4) d5 v5) d6 v6) d7 v7) d8 v8) d9 v9) d10 v10) d11 v11) d12 v12) d13 v13 := ⟨r, by rw [upd_self h0, upd_self h1, upd_self h2, upd_self h3, upd_self h4, upd_self h5, upd_self h6, upd_self h7, upd_self h8, upd_self h9, upd_self h10, upd_self h11, upd_self h12, upd_self h13]⟩
theorem back15 {r : Regs} {d0 d1 d2 d3 d4 d5 d6 d7 d8 d9 d10 d11 d12 d13 d14 : Nat} {v0 v1 v2 v3 v4 v5 v6 v7 v8 v9 v10 v11 v12 v13 v14 : Value} (h0 : r d0 = v0) (h1 : r d1 = v1) (h2 : r d2 = v2) (h3 : r d3 = v3) (h4 : r d4 = v4) (h5 : r d5 = v5) (h6 : r d6 = v6) (h7 : r d7 = v7) (h8 : r d8 = v8) (h9 : r d9 = v9) (h10 : r d10 = v10) (h11 : r d11 = v11) (h12 : r d12 = v12) (h13 : r d13 = v13) (h14 : r d14 = v14) : ∃ r0, r = upd (upd (upd (upd (upd (upd (upd (upd (upd (upd (upd (upd (upd (upd (upd r0 d0 v0) d1 v1) d2 v2) d3 v3) d4 v4) d5 v5) d6 v6) d7 v7) d8 v8) d9 v9) d10 v10) d11 v11) d12 v12) d13 v13) d14 v14 := ⟨r, by rw [upd_self h0, upd_self h1, upd_self h2, upd_self h3, upd_self h4, upd_self h5, upd_self h6, upd_self h7, upd_self h8, upd_self h9, upd_self h10, upd_self h11, upd_self h12, upd_self h13, upd_self h14]⟩
theorem back16 {r : Regs} {d0 d1 d2 d3 d4 d5 d6 d7 d8 d9 d10 d11 d12 d13 d14 d15 : Nat} {v0 v1 v2 v3 v4 v5 v6 v7 v8 v9 v10 v11 v12 v13 v14 v15 : Value} (h0 : r d0 = v0) (h1 : r d1 = v1) (h2 : r d2 = v2) (h3 : r d3 = v3) (h4 : r d4 = v4) (h5 : r d5 = v5) (h6 : r d6 = v6) (h7 : r d7 = v7) (h8 : r d8 = v8) (h9 : r d9 = v9) (h10 : r d10 = v10) (h11 : r d11 = v11) (h12 : r d12 = v12) (h13 : r d13 = v13) (h14 : r d14 = v14) (h15 : r d15 = v15) : ∃ r0, r = upd (upd (upd (upd (upd (upd (upd (upd (upd (upd (upd (upd (upd (upd (upd (upd r0 d0 v0) d1 v1) d2 v2) d3 v3) d4 v4) d5 v5) d6 v6) d7 v7) d8 v8) d9 v9) d10 v10) d11 v11) d12 v12) d13 v13) d14 v14) d15 v15 := ⟨r, by rw [upd_self h0, upd_self h1, upd_self h2, upd_self h3, upd_self h4, upd_self h5, upd_self h6, upd_self h7, upd_self h8, upd_self h9, upd_self h10, upd_self h11, upd_self h12, upd_self h13, upd_self h14, upd_self h15]⟩
theorem back17 {r : Regs} {d0 d1 d2 d3 d4 d5 d6 d7 d8 d9 d10 d11 d12 d13 d14 d15 d16 : Nat} {v0 v1 v2 v3 v4 v5 v6 v7 v8 v9 v10 v11 v12 v13 v14 v15 v16 : Value} (h0 : r d0 = v0) (h1 : r d1 = v1) (h2 : r d2 = v2) (h3 : r d3 = v3) (h4 : r d4 = v4) (h5 : r d5 = v5) (h6 : r d6 = v6) (h7 : r d7 = v7) (h8 : r d8 = v8) (h9 : r d9 = v9) (h10 : r d10 = v10) (h11 : r d11 = v11) (h12 : r d12 = v12) (h13 : r d13 = v13) (h14 : r d14 = v14) (h15 : r d15 = v15) (h16 : r d16 = v16) : ∃ r0, r = upd (upd (upd (upd (upd (upd (upd (upd (upd (upd (upd (upd (upd (upd (upd (upd (upd r0 d0 v0) d1 v1) d2 v2) d3 v3) d4 v4) d5 v5) d6 v6) d7 v7) d8 v8) d9 v9) d10 v10) d11 v11) d12 v12) d13 v13) d14 v14) d15 v15) d16 v16 := ⟨r, by rw [upd_self h0, upd_self h1, upd_self h2, upd_self h3, upd_self h4, upd_self h5, upd_self h6, upd_self h7, upd_self h8, upd_self h9, upd_self h10, upd_self h11, upd_self h12, upd_self h13, upd_self h14, upd_self h15, upd_self h16]⟩
theorem back18 {r : Regs} {d0 d1 d2 d3 d4 d5 d6 d7 d8 d9 d10 d11 d12 d13 d14 d15 d16 d17 : Nat} {v0 v1 v2 v3 v4 v5 v6 v7 v8 v9 v10 v11 v12 v13 v14 v15 v16 v17 : Value} (h0 : r d0 = v0) (h1 : r d1 = v1) (h2 : r d2 = v2) (h3 : r d3 = v3) (h4 : r d4 = v4) (h5 : r d5 = v5) (h6 : r d6 = v6) (h7 : r d7 = v7) (h8 : r d8 = v8) (h9 : r d9 = v9) (h10 : r d10 = v10) (h11 : r d11 = v11) (h12 : r d12 = v12) (h13 : r d13 = v13) (h14 : r d14 = v14) (h15 : r d15 = v15) (h16 : r d16 = v16) (h17 : r d17 = v17) : ∃ r0, r = upd (upd (upd (upd (upd (upd (upd (upd (upd (upd (upd (upd (upd (upd (upd (upd (upd (upd r0 d0 v0) d1 v1) d2 v2) d3 v3) d4 v4) d5 v5) d6 v6) d7 v7) d8 v8) d9 v9) d10 v10) d11 v11) d12 v12) d13 v13) d14 v14) d15 v15) d16 v16) d17 v17 := ⟨r, by rw [upd_self h0, upd_self h1, upd_self h2, upd_self h3, upd_self h4, upd_self h5, upd_self h6, upd_self h7, upd_self h8, upd_self h9, upd_self h10, upd_self h11, upd_self h12, upd_self h13, upd_self h14, upd_self h15, upd_self h16, upd_self h17]⟩
theorem back19 {r : Regs} {d0 d1 d2 d3 d4 d5 d6 d7 d8 d9 d10 d11 d12 d13 d14 d15 d16 d17 d18 : Nat} {v0 v1 v2 v3 v4 v5 v6 v7 v8 v9 v10 v11 v12 v13 v14 v15 v16 v17 v18 : Value} (h0 : r d0 = v0) (h1 : r d1 = v1) (h2 : r d2 = v2) (h3 : r d3 = v3) (h4 : r d4 = v4) (h5 : r d5 = v5) (h6 : r d6 = v6) (h7 : r d7 = v7) (h8 : r d8 = v8) (h9 : r d9 = v9) (h10 : r d10 = v10) (h11 : r d11 = v11) (h12 : r d12 = v12) (h13 : r d13 = v13) (h14 : r d14 = v14) (h15 : r d15 = v15) (h16 : r d16 = v16) (h17 : r d17 = v17) (h18 : r d18 = v18) : ∃ r0, r = upd (upd (upd (upd (upd (upd (upd (upd (upd (upd (upd (upd (upd (upd (upd (upd (upd (upd (upd r0 d0 v0) d1 v1) d2 v2) d3 v3) d4 v4) d5 v5) d6 v6) d7 v7) d8 v8) d9 v9) d10 v10) d11 v11) d12 v12) d13 v13) d14 v14) d15 v15) d16 v16) d17 v17) d18 v18 := ⟨r, by rw [upd_self h0, upd_self h1, upd_self h2, upd_self h3, upd_self h4, upd_self h5, upd_self h6, upd_self h7, upd_self h8, upd_self h9, upd_self h10, upd_self h11, upd_self h12, upd_self h13, upd_self h14, upd_self h15, upd_self h16, upd_self h17, upd_self h18]⟩
theorem back20 {r : Regs} {d0 d1 d2 d3 d4 d5 d6 d7 d8 d9 d10 d11 d12 d13 d14 d15 d16 d17 d18 d19 : Nat} {v0 v1 v2 v3 v4 v5 v6 v7 v8 v9 v10 v11 v12 v13 v14 v15 v16 v17 v18 v19 : Value} (h0 : r d0 = v0) (h1 : r d1 = v1) (h2 : r d2 = v2) (h3 : r d3 = v3) (h4 : r d4 = v4) (h5 : r d5 = v5) (h6 : r d6 = v6) (h7 : r d7 = v7) (h8 : r d8 = v8) (h9 : r d9 = v9) (h10 : r d10 = v10) (h11 : r d11 = v11) (h12 : r d12 = v12) (h13 : r d13 = v13) (h14 : r d14 = v14) (h15 : r d15 = v15) (h16 : r d16 = v16) (h17 : r d17 = v17) (h18 : r d18 = v18) (h19 : r d19 = v19) : ∃ r0, r = upd (upd (upd (upd (upd (upd (upd (upd (upd (upd (upd (upd (upd (upd (upd (upd (upd (upd (upd (upd r0 d0 v0) d1 v1) d2 v2) d3 v3) d4 v4) d5 v5) d6 v6) d7 v7) d8 v8) d9 v9) d10 v10) d11 v11) d12 v12) d13 v13) d14 v14) d15 v15) d16 v16) d17 v17) d18 v18) d19 v19 := ⟨r, by rw [upd_self h0, upd_self h1, upd_self h2, upd_self h3, upd_self h4, upd_self h5, upd_self h6, upd_self h7, upd_self h8, upd_self h9, upd_self h10, upd_self h11, upd_self h12, upd_self h13, upd_self h14, upd_self h15, upd_self h16, upd_self h17, upd_self h18, upd_self h19]⟩
theorem back21 {r : Regs} {d0 d1 d2 d3 d4 d5 d6 d7 d8 d9 d10 d11 d12 d13 d14 d15 d16 d17 d18 d19 d20 : Nat} {v0 v1 v2 v3 v4 v5 v6 v7 v8 v9 v10 v11 v12 v13 v14 v15 v16 v17 v18 v19 v20 : Value} (h0 : r d0 = v0) (h1 : r d1 = v1) (h2 : r d2 = v2) (h3 : r d3 = v3) (h4 : r d4 = v4) (h5 : r d5 = v5) (h6 : r d6 = v6) (h7 : r d7 = v7) (h8 : r d8 = v8) (h9 : r d9 = v9) (h10 : r d10 = v10) (h11 : r d11 = v11) (h12 : r d12 = v12) (h13 : r d13 = v13) (h14 : r d14 = v14) (h15 : r d15 = v15) (h16 : r d16 = v16) (h17 : r d17 = v17) (h18 : r d18 = v18) (h19 : r d19 = v19) (h20 : r d20 = v20) : ∃ r0, r = upd (upd (upd (upd (upd (upd (upd (upd (upd (upd (upd (upd (upd (upd (upd (upd (upd (upd (upd (upd (upd r0 d0 v0) d1 v1) d2 v2) d3 v3) d4 v4) d5 v5) d6 v6) d7 v7) d8 v8) d9 v9) d10 v10) d11 v11) d12 v12) d13 v13) d14 v14) d15 v15) d16 v16) d17 v17) d18 v18) d19 v19) d20 v20 := ⟨r, by rw [upd_self h0, upd_self h1, upd_self h2, upd_self h3, upd_self h4, upd_self h5, upd_self h6, upd_self h7, upd_self h8, upd_self h9, upd_self h10, upd_self h11, upd_self h12, upd_self h13, upd_self h14, upd_self h15, upd_self h16, upd_self h17, upd_self h18, upd_self h19, upd_self h20]⟩
theorem back22 {r : Regs} {d0 d1 d2 d3 d4 d5 d6 d7 d8 d9 d10 d11 d12 d13 d14 d15 d16 d17 d18 d19 d20 d21 : Nat} {v0 v1 v2 v3 v4 v5 v6 v7 v8 v9 v10 v11 v12 v13 v14 v15 v16 v17 v18 v19 v20 v21 : Value} (h0 : r d0 = v0) (h1 : r d1 = v1) (h2 : r d2 = v2) (h3 : r d3 = v3) (h4 : r d4 = v4) (h5 : r d5 = v5) (h6 : r d6 = v6) (h7 : r d7 = v7) (h8 : r d8 = v8) (h9 : r d9 = v9) (h10 : r d10 = v10) (h11 : r d11 = v11) (h12 : r d12 = v12) (h13 : r d13 = v13) (h14 : r d14 = v14) (h15 : r d15 = v15) (h16 : r d16 = v16) (h17 : r d17 = v17) (h18 : r d18 = v18) (h19 : r d19 = v19) (h20 : r d20 = v20) (h21 : r d21 = v21) : ∃ r0, r = upd (upd (upd (upd (upd (upd (upd (upd (upd (upd (upd (upd (upd (upd (upd (upd (upd (upd (upd (upd (upd (upd r0 d0 v0) d1 v1) d2 v2) d3 v3) d4 v4) d5 v5) d6 v6) d7 v7) d8 v8) d9 v9) d10 v10) d11 v11) d12 v12) d13 v13) d14 v14) d15 v15) d16 v16) d17 v17) d18 v18) d19 v19) d20 v20) d21 v21 := ⟨r, by rw [upd_self h0, upd_self h1, upd_self h2, upd_self h3, upd_self h4, upd_self h5, upd_self h6, upd_self h7, upd_self h8, upd_self h9, upd_self h10, upd_self h11, upd_self h12, upd_self h13, upd_self h14, upd_self h15, upd_self h16, upd_self h17, upd_self h18, upd_self h19, upd_self h20, upd_self h21]⟩
theorem back23 {r : Regs} {d0 d1 d2 d3 d4 d5 d6 d7 d8 d9 d10 d11 d12 d13 d14 d15 d16 d17 d18 d19 d20 d21 d22 : Nat} {v0 v1 v2 v3 v4 v5 v6 v7 v8 v9 v10 v11 v12 v13 v14 v15 v16 v17 v18 v19 v20 v21 v22 : Value} (h0 : r d0 = v0) (h1 : r d1 = v1) (h2 : r d2 = v2) (h3 : r d3 = v3) (h4 : r d4 = v4) (h5 : r d5 = v5) (h6 : r d6 = v6) (h7 : r d7 = v7) (h8 : r d8 = v8) (h9 : r d9 = v9) (h10 : r d10 = v10) (h11 : r d11 = v11) (h12 : r d12 = v12) (h13 : r d13 = v13) (h14 : r d14 = v14) (h15 : r d15 = v15) (h16 : r d16 = v16) (h17 : r d17 = v17) (h18 : r d18 = v18) (h19 : r d19 = v19) (h20 : r d20 = v20) (h21 : r d21 = v21) (h22 : r d22 = v22) : ∃ r0, r = upd (upd (upd (upd (upd (upd (upd (upd (upd (upd (upd (upd (upd (upd (upd (upd (upd (upd (upd (upd (upd (upd (upd r0 d0 v0) d1 v1) d2 v2) d3 v3) d4 v4) d5 v5) d6 v6) d7 v7) d8 v8) d9 v9) d10 v10) d11 v11) d12 v12) d13 v13) d14 v14) d15 v15) d16 v16) d17 v17) d18 v18) d19 v19) d20 v20) d21 v21) d22 v22 := ⟨r, by rw [upd_self h0, upd_self h1, upd_self h2, upd_self h3, upd_self h4, upd_self h5, upd_self h6, upd_self h7, upd_self h8, upd_self h9, upd_self h10, upd_self h11, upd_self h12, upd_self h13, upd_self h14, upd_self h15, upd_self h16, upd_self h17, upd_self h18, upd_self h19, upd_self h20, upd_self h21, upd_self h22]⟩
theorem back24 {r : Regs} {d0 d1 d2 d3 d4 d5 d6 d7 d8 d9 d10 d11 d12 d13 d14 d15 d16 d17 d18 d19 d20 d21 d22 d23 : Nat} {v0 v1 v2 v3 v4 v5 v6 v7 v8 v9 v10 v11 v12 v13 v14 v15 v16 v17 v18 v19 v20 v21 v22 v23 : Value} (h0 : r d0 = v0) (h1 : r d1 = v1) (h2 : r d2 = v2) (h3 : r d3 = v3) (h4 : r d4 = v4) (h5 : r d5 = v5) (h6 : r d6 = v6) (h7 : r d7 = v7) (h8 : r d8 = v8) (h9 : r d9 = v9) (h10 : r d10 = v10) (h11 : r d11 = v11) (h12 : r d12 = v12) (h13 : r d13 = v13) (h14 : r d14 = v14) (h15 : r d15 = v15) (h16 : r d16 = v16) (h17 : r d17 = v17) (h18 : r d18 = v18) (h19 : r d19 = v19) (h20 : r d20 = v20) (h21 : r d21 = v21) (h22 : r d22 = v22) (h23 : r d23 = v23) : ∃ r0, r = upd (upd (upd (upd (upd (upd (upd (upd (upd (upd (upd (upd (upd (upd (upd (upd (upd (upd (upd (upd (upd (upd (upd (upd r0 d0 v0) d1 v1) d2 v2) d3 v3) d4 v4) d5 v5) d6 v6) d7 v7) d8 v8) d9 v9) d10 v10) d11 v11) d12 v12) d13 v13) d14 v14) d15 v15) d16 v16) d17 v17) d18 v18) d19 v19) d20 v20) d21 v21) d22 v22) d23 v23 := ⟨r, by rw [upd_self h0, upd_self h1, upd_self h2, upd_self h3, upd_self h4, upd_self h5, upd_self h6, upd_self h7, upd_self h8, upd_self h9, upd_self h10, upd_self h11, upd_self h12, upd_self h13, upd_self h14, upd_self h15, upd_self h16, upd_self h17, upd_self h18, upd_self h19, upd_self h20, upd_self h21, upd_self h22, upd_self h23]⟩
theorem back25 {r : Regs} {d0 d1 d2 d3 d4 d5 d6 d7 d8 d9 d10 d11 d12 d13 d14 d15 d16 d17 d18 d19 d20 d21 d22 d23 d24 : Nat} {v0 v1 v2 v3 v4 v5 v6 v7 v8 v9 v10 v11 v12 v13 v14 v15 v16 v17 v18 v19 v20 v21 v22 v23 v24 : Value} (h0 : r d0 = v0) (h1 : r d1 = v1) (h2 : r d2 = v2) (h3 : r d3 = v3) (h4 : r d4 = v4) (h5 : r d5 = v5) (h6 : r d6 = v6) (h7 : r d7 = v7) (h8 : r d8 = v8) (h9 : r d9 = v9) (h10 : r d10 = v10) (h11 : r d11 = v11) (h12 : r d12 = v12) (h13 : r d13 = v13) (h14 : r d14 = v14) (h15 : r d15 = v15) (h16 : r d16 = v16) (h17 : r d17 = v17) (h18 : r d18 = v18) (h19 : r d19 = v19) (h20 : r d20 = v20) (h21 : r d21 = v21) (h22 : r d22 = v22) (h23 : r d23 = v23) (h24 : r d24 = v24) : ∃ r0, r = upd (upd (upd (upd (upd (upd (upd (upd (upd (upd (upd (upd (upd (upd (upd (upd (upd (upd (upd (upd (upd (upd (upd (upd (upd r0 d0 v0) d1 v1) d2 v2) d3 v3) d4 v4) d5 v5) d6 v6) d7 v7) d8 v8) d9 v9) d10 v10) d11 v11) d12 v12) d13 v13) d14 v14) d15 v15) d16 v16) d17 v17) d18 v18) d19 v19) d20 v20) d21 v21) d22 v22) d23 v23) d24 v24 := ⟨r, by rw [upd_self h0, upd_self h1, upd_self h2, upd_self h3, upd_self h4, upd_self h5, upd_self h6, upd_self h7, upd_self h8, upd_self h9, upd_self h10, upd_self h11, upd_self h12, upd_self h13, upd_self h14, upd_self h15, upd_self h16, upd_self h17, upd_self h18, upd_self h19, upd_self h20, upd_self h21, upd_self h22, upd_self h23, upd_self h24]⟩
theorem back26 {r : Regs} {d0 d1 d2 d3 d4 d5 d6 d7 d8 d9 d10 d11 d12 d13 d14 d15 d16 d17 d18 d19 d20 d21 d22 d23 d24 d25 : Nat} {v0 v1 v2 v3 v4 v5 v6 v7 v8 v9 v10 v11 v12 v13 v14 v15 v16 v17 v18 v19 v20 v21 v22 v23 v24 v25 : Value} (h0 : r d0 = v0) (h1 : r d1 = v1) (h2 : r d2 = v2) (h3 : r d3 = v3) (h4 : r d4 = v4) (h5 : r d5 = v5) (h6 : r d6 = v6) (h7 : r d7 = v7) (h8 : r d8 = v8) (h9 : r d9 = v9) (h10 : r d10 = v10) (h11 : r d11 = v11) (h12 : r d12 = v12) (h13 : r d13 = v13) (h14 : r d14 = v14) (h15 : r d15 = v15) (h16 : r d16 = v16) (h17 : r d17 = v17) (h18 : r d18 = v18) (h19 : r d19 = v19) (h20 : r d20 = v20) (h21 : r d21 = v21) (h22 : r d22 = v22) (h23 : r d23 = v23) (h24 : r d24 = v24) (h25 : r d25 = v25) : ∃ r0, r = upd (upd (upd (upd (upd (upd (upd (upd (upd (upd (upd (upd (upd (upd (upd (upd (upd (upd (upd (upd (upd (upd (upd (upd (upd (upd r0 d0 v0) d1 v1) d2 v2) d3 v3) d4 v4) d5 v5) d6 v6) d7 v7) d8 v8) d9 v9) d10 v10) d11 v11) d12 v12) d13 v13) d14 v14) d15 v15) d16 v16) d17 v17) d18 v18) d19 v19) d20 v20) d21 v21) d22 v22) d23 v23) d24 v24) d25 v25 := ⟨r, by rw [upd_self h0, upd_self h1, upd_self h2, upd_self h3, upd_self h4, upd_self h5, upd_self h6, upd_self h7, upd_self h8, upd_self h9, upd_self h10, upd_self h11, upd_self h12, upd_self h13, upd_self h14, upd_self h15, upd_self h16, upd_self h17, upd_self h18, upd_self h19, upd_self h20, upd_self h21, upd_self h22, upd_self h23, upd_self h24, upd_self h25]⟩
theorem back27 {r : Regs} {d0 d1 d2 d3 d4 d5 d6 d7 d8 d9 d10 d11 d12 d13 d14 d15 d16 d17 d18 d19 d20 d21 d22 d23 d24 d25 d26 : Nat} {v0 v1 v2 v3 v4 v5 v6 v7 v8 v9 v10 v11 v12 v13 v14 v15 v16 v17 v18 v19 v20 v21 v22 v23 v24 v25 v26 : Value} (h0 : r d0 = v0) (h1 : r d1 = v1) (h2 : r d2 = v2) (h3 : r d3 = v3) (h4 : r d4 = v4) (h5 : r d5 = v5) (h6 : r d6 = v6) (h7 : r d7 = v7) (h8 : r d8 = v8) (h9 : r d9 = v9) (h10 : r d10 = v10) (h11 : r d11 = v11) (h12 : r d12 = v12) (h13 : r d13 = v13) (h14 : r d14 = v14) (h15 : r d15 = v15) (h16 : r d16 = v16) (h17 : r d17 = v17) (h18 : r d18 = v18) (h19 : r d19 = v19) (h20 : r d20 = v20) (h21 : r d21 = v21) (h22 : r d22 = v22) (h23 : r d23 = v23) (h24 : r d24 = v24) (h25 : r d25 = v25) (h26 : r d26 = v26) : ∃ r0, r = upd (upd (upd (upd (upd (upd (upd (upd (upd (upd (upd (upd (upd (upd (upd (upd (upd (upd (upd (upd (upd (upd (upd (upd (upd (upd (upd r0 d0 v0) d1 v1) d2 v2) d3 v3) d4 v4) d5 v5) d6 v6) d7 v7) d8 v8) d9 v9) d10 v10) d11 v11) d12 v12) d13 v13) d14 v14) d15 v15) d16 v16) d17 v17) d18 v18) d19 v19) d20 v20) d21 v21) d22 v22) d23 v23) d24 v24) d25 v25) d26 v26 := ⟨r, by rw [upd_self h0, upd_self h1, upd_self h2, upd_self h3, upd_self h4, upd_self h5, upd_self h6, upd_self h7, upd_self h8, upd_self h9, upd_self h10, upd_self h11, upd_self h12, upd_self h13, upd_self h14, upd_self h15, upd_self h16, upd_self h17, upd_self h18, upd_self h19, upd_self h20, upd_self h21, upd_self h22, upd_self h23, upd_self h24, upd_self h25, upd_self h26]⟩
theorem back28 {r : Regs} {d0 d1 d2 d3 d4 d5 d6 d7 d8 d9 d10 d11 d12 d13 d14 d15 d16 d17 d18 d19 d20 d21 d22 d23 d24 d25 d26 d27 : Nat} {v0 v1 v2 v3 v4 v5 v6 v7 v8 v9 v10 v11 v12 v13 v14 v15 v16 v17 v18 v19 v20 v21 v22 v23 v24 v25 v26 v27 : Value} (h0 : r d0 = v0) (h1 : r d1 = v1) (h2 : r d2 = v2) (h3 : r d3 = v3) (h4 : r d4 = v4) (h5 : r d5 = v5) (h6 : r d6 = v6) (h7 : r d7 = v7) (h8 : r d8 = v8) (h9 : r d9 = v9) (h10 : r d10 = v10) (h11 : r d11 = v11) (h12 : r d12 = v12) (h13 : r d13 = v13) (h14 : r d14 = v14) (h15 : r d15 = v15) (h16 : r d16 = v16) (h17 : r d17 = v17) (h18 : r d18 = v18) (h19 : r d19 = v19) (h20 : r d20 = v20) (h21 : r d21 = v21) (h22 : r d22 = v22) (h23 : r d23 = v23) (h24 : r d24 = v24) (h25 : r d25 = v25) (h26 : r d26 = v26) (h27 : r d27 = v27) : ∃ r0, r = upd (upd (upd (upd (upd (upd (upd (upd (upd (upd (upd (upd (upd (upd (upd (upd (upd (upd (upd (upd (upd (upd (upd (upd (upd (upd (upd (upd r0 d0 v0) d1 v1) d2 v2) d3 v3) d4 v4) d5 v5) d6 v6) d7 v7) d8 v8) d9 v9) d10 v10) d11 v11) d12 v12) d13 v13) d14 v14) d15 v15) d16 v16) d17 v17) d18 v18) d19 v19) d20 v20) d21 v21) d22 v22) d23 v23) d24 v24) d25 v25) d26 v26) d27 v27 := ⟨r, by rw [upd_self h0, upd_self h1, upd_self h2, upd_self h3, upd_self h4, upd_self h5, upd_self h6, upd_self h7, upd_self h8, upd_self h9, upd_self h10, upd_self h11, upd_self h12, upd_self h13, upd_self h14, upd_self h15, upd_self h16, upd_self h17, upd_self h18, upd_self h19, upd_self h20, upd_self h21, upd_self h22, upd_self h23, upd_self h24, upd_self h25, upd_self h26, upd_self h27]⟩
theorem back29 {r : Regs} {d0 d1 d2 d3 d4 d5 d6 d7 d8 d9 d10 d11 d12 d13 d14 d15 d16 d17 d18 d19 d20 d21 d22 d23 d24 d25 d26 d27 d28 : Nat} {v0 v1 v2 v3 v4 v5 v6 v7 v8 v9 v10 v11 v12 v13 v14 v15 v16 v17 v18 v19 v20 v21 v22 v23 v24 v25 v26 v27 v28 : Value} (h0 : r d0 = v0) (h1 : r d1 = v1) (h2 : r d2 = v2) (h3 : r d3 = v3) (h4 : r d4 = v4) (h5 : r d5 = v5) (h6 : r d6 = v6) (h7 : r d7 = v7) (h8 : r d8 = v8) (h9 : r d9 = v9) (h10 : r d10 = v10) (h11 : r d11 = v11) (h12 : r d12 = v12) (h13 : r d13 = v13) (h14 : r d14 = v14) (h15 : r d15 = v15) (h16 : r d16 = v16) (h17 : r d17 = v17) (h18 : r d18 = v18) (h19 : r d19 = v19) (h20 : r d20 = v20) (h21 : r d21 = v21) (h22 : r d22 = v22) (h23 : r d23 = v23) (h24 : r d24 = v24) (h25 : r d25 = v25) (h26 : r d26 = v26) (h27 : r d27 = v27) (h28 : r d28 = v28) : ∃ r0, r = upd (upd (upd (upd (upd (upd (upd (upd (upd (upd (upd (upd (upd (upd (upd (upd (upd (upd (upd (upd (upd (upd (upd (upd (upd (upd (upd (upd (upd r0 d0 v0) d1 v1) d2 v2) d3 v3) d4 v4) d5 v5) d6 v6) d7 v7) d8 v8) d9 v9) d10 v10) d11 v11) d12 v12) d13 v13) d14 v14) d15 v15) d16 v16) d17 v17) d18 v18) d19 v19) d20 v20) d21 v21) d22 v22) d23 v23) d24 v24) d25 v25) d26 v26) d27 v27) d28 v28 := ⟨r, by rw [upd_self h0, upd_self h1, upd_self h2, upd_self h3, upd_self h4, upd_self h5, upd_self h6, upd_self h7, upd_self h8, upd_self h9, upd_self h10, upd_self h11, upd_self h12, upd_self h13, upd_self h14, upd_self h15, upd_self h16, upd_self h17, upd_self h18, upd_self h19, upd_self h20, upd_self h21, upd_self h22, upd_self h23, upd_self h24, upd_self h25, upd_self h26, upd_self h27, upd_self h28]⟩
theorem back30 {r : Regs} {d0 d1 d2 d3 d4 d5 d6 d7 d8 d9 d10 d11 d12 d13 d14 d15 d16 d17 d18 d19 d20 d21 d22 d23 d24 d25 d26 d27 d28 d29 : Nat} {v0 v1 v2 v3 v4 v5 v6 v7 v8 v9 v10 v11 v12 v13 v14 v15 v16 v17 v18 v19 v20 v21 v22 v23 v24 v25 v26 v27 v28 v29 : Value} (h0 : r d0 = v0) (h1 : r d1 = v1) (h2 : r d2 = v2) (h3 : r d3 = v3) (h4 : r d4 = v4) (h5 : r d5 = v5) (h6 : r d6 = v6) (h7 : r d7 = v7) (h8 : r d8 = v8) (h9 : r d9 = v9) (h10 : r d10 = v10) (h11 : r d11 = v11) (h12 : r d12 = v12) (h13 : r d13 = v13) (h14 : r d14 = v14) (h15 : r d15 = v15) (h16 : r d16 = v16) (h17 : r d17 = v17) (h18 : r d18 = v18) (h19 : r d19 = v19) (h20 : r d20 = v20) (h21 : r d21 = v21) (h22 : r d22 = v22) (h23 : r d23 = v23) (h24 : r d24 = v24) (h25 : r d25 = v25) (h26 : r d26 = v26) (h27 : r d27 = v27) (h28 : r d28 = v28) (h29 : r d29 = v29) : ∃ r0, r = upd (upd (upd (upd (upd (upd (upd (upd (upd (upd (upd (upd (upd (upd (upd (upd (upd (upd (upd (upd (upd (upd (upd (upd (upd (upd (upd (upd (upd (upd r0 d0 v0) d1 v1) d2 v2) d3 v3) d4 v4) d5 v5) d6 v6) d7 v7) d8 v8) d9 v9) d10 v10) d11 v11) d12 v12) d13 v13) d14 v14) d15 v15) d16 v16) d17 v17) d18 v18) d19 v19) d20 v20) d21 v21) d22 v22) d23 v23) d24 v24) d25 v25) d26 v26) d27 v27) d28 v28) d29 v29 := ⟨r, by rw [upd_self h0, upd_self h1, upd_self h2, upd_self h3, upd_self h4, upd_self h5, upd_self h6, upd_self h7, upd_self h8, upd_self h9, upd_self h10, upd_self h11, upd_self h12, upd_self h13, upd_self h14, upd_self h15, upd_self h16, upd_self h17, upd_self h18, upd_self h19, upd_self h20, upd_self h21, upd_self h22, upd_self h23, upd_self h24, upd_self h25, upd_self h26, upd_self h27, upd_self h28, upd_self h29]⟩
end Go.Proofs.Ytiffedgmageiaaa.B
namespace Go.Proofs.Ytiffedgmageiaaa.B
section
variable {P : Program} {n : Nat} {Q : Exit → Regs → World → Prop} {r : Regs} {w : World} {fn : Func} {Post : Value → World → Prop}
theorem ret0 (hr : fn.results.toList = []) (hp : Post (.tuple #[]) w) : retQ P fn Post .ret r w := ⟨[], by rw [hr]; trivial, hp⟩
theorem ret1 {t : Nat} (hr : fn.results.toList = [.tmp t]) {v : Value} (hv : r t = v) (hp : Post v w) : retQ P fn Post .ret r w := ⟨[v], by rw [hr]; exact ⟨hv.symm, trivial⟩, hp⟩
theorem ret2 {t u : Nat} (hr : fn.results.toList = [.tmp t, .tmp u]) {v v2 : Value} (hv : r t = v) (hv2 : r u = v2) (hp : Post (.tuple #[v, v2]) w) : retQ P fn Post .ret r w := ⟨[v, v2], by rw [hr]; exact ⟨hv.symm, hv2.symm, trivial⟩, hp⟩
theorem ret3 {t u q : Nat} (hr : fn.results.toList = [.tmp t, .tmp u, .tmp q]) {v v2 v3 : Value} (hv : r t = v) (hv2 : r u = v2) (hv3 : r q = v3) (hp : Post (.tuple #[v, v2, v3]) w) : retQ P fn Post .ret r w := ⟨[v, v2, v3], by rw [hr]; exact ⟨hv.symm, hv2.symm, hv3.symm, trivial⟩, hp⟩
theorem retC {a t : Nat} (hr : fn.results.toList = [.cell a t]) {ad : Addr} {v : Value} (ha : r a = .pointer (some ad)) (hl : (loadVar t ad).run P w = .ok v w) (hp : Post v w) : retQ P fn Post .ret r w := ⟨[v], by rw [hr]; exact ⟨⟨ad, ha, hl⟩, trivial⟩, hp⟩
theorem retC1 {a t u : Nat} (hr : fn.results.toList = [.cell a t, .tmp u]) {ad : Addr} {v v2 : Value} (ha : r a = .pointer (some ad)) (hl : (loadVar t ad).run P w = .ok v w) (hv : r u = v2) (hp : Post (.tuple #[v, v2]) w) : retQ P fn Post .ret r w := ⟨[v, v2], by rw [hr]; exact ⟨⟨ad, ha, hl⟩, hv.symm, trivial⟩, hp⟩
end
end Go.Proofs.Ytiffedgmageiaaa.B
namespace Go.Proofs.Ytiffedgmageiaaa.B
set_option linter.unusedVariables false
/-- One register as another one is. -/
def cp (r : Regs) (d t : Nat) : Regs := upd r d (r t)
def inl_ (t : Nat) : List Nat → Bool | [] => false | x :: l => bif Nat.beq t x then true else inl_ t l
/-- Some registers as others have them. -/
def mix (r q : Regs) (l : List Nat) : Regs := fun t => bif inl_ t l then q t else r t
def Agr : List Nat → Regs → Regs → Prop | [], _, _ => True | t :: l, r, q => r t = q t ∧ Agr l r q
theorem agr_at : ∀ (l : List Nat) (r q : Regs) (t : Nat), Agr l r q → inl_ t l = true → r t = q t
  | [], _, _, _, _, h => by cases h
  | x :: l, r, q, t, ⟨h1, h2⟩, h => by
    unfold inl_ at h
    by_cases e : t = x
    · subst e; exact h1
    · have : Nat.beq t x = false := Bool.eq_false_iff.2 (fun e' => e (Nat.eq_of_beq_eq_true e'))
      rw [this] at h
      exact agr_at l r q t h2 h
theorem agrBack {l : List Nat} {r q : Regs} (h : Agr l r q) : ∃ r0, r = mix r0 q l := ⟨r, by
  funext t
  unfold mix
  cases e : inl_ t l with
  | true => exact agr_at l r q t h e
  | false => rfl⟩
end Go.Proofs.Ytiffedgmageiaaa.B

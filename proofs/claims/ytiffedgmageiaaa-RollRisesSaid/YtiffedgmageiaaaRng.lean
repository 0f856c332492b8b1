/- Ranges over functions: code walked within a round, or behind such a loop (whose mark stands among the activation's deferred calls). -/
import Derived.Test.YtiffedgmageiaaaStruct
import Derived.RangeFuncNested
import Derived.RangeFuncCalls
import Derived.RangeFuncLeaves
namespace Go.Proofs.Ytiffedgmageiaaa.B
set_option linter.unusedVariables false
open Go.RowKit
set_option linter.unusedSimpArgs false

structure RD (n : Nat) (ds : List Deferred) (a : Act) (r : Regs) : Prop where
  size : a.tmps.size = n
  get : ∀ t, a.tmps.getD t undef = r t
  dfr : a.defers = ds
def clean (a : Act) : Act := { a with defers := [] }
theorem RD.ra {n : Nat} {ds : List Deferred} {a : Act} {r : Regs} (h : RD n ds a r) : RA n (clean a) r := ⟨h.size, h.get, rfl⟩
theorem RD.ev {n : Nat} {ds : List Deferred} {a : Act} {r : Regs} (h : RD n ds a r) : a.eval = ev r := by
  have := h.ra.ev
  exact this
theorem RD.put {n : Nat} {ds : List Deferred} {a : Act} {r : Regs} (h : RD n ds a r) {d : Option Nat} (hd : dstOK n d = true) (v : Value) : RD n ds (a.put d v) (updO r d v) := by
  have := h.ra.put hd v
  cases d with
  | none => exact h
  | some d => exact ⟨this.size, this.get, h.dfr⟩

def Fz : Option Nat → Fence | none => Fence.wide | some l => Fence.wide.inRound l
theorem fzAll (z : Option Nat) (f : FuncId) : (Fz z).fn f := by cases z <;> trivial
theorem fzDepth (z : Option Nat) : (Fz z).depth = none := by cases z <;> rfl
abbrev QD := List Deferred → Exit → Regs → World → Prop
def WG (z : Option Nat) (P : Program) (n : Nat) (ds : List Deferred) (c : Code) (Q : QD) (r : Regs) (w : World) : Prop :=
  ∀ m a, RD n ds a r → c.wpIn (Fz z) m P (fun e a' w' => ∃ ds' r', RD n ds' a' r' ∧ Q ds' e r' w') a w
abbrev thenD (next : List Deferred → Regs → World → Prop) (Q : QD) : QD
  | ds, .normal, r, w => next ds r w
  | ds, e, r, w => Q ds e r w
abbrev blockD (id : Nat) (Q : QD) : QD
  | ds, .exit id', r, w => bif Nat.beq id' id then Q ds .normal r w else Q ds (.exit id') r w
  | ds, e, r, w => Q ds e r w

section
variable {z : Option Nat} {P : Program} {n : Nat} {ds : List Deferred} {Q : QD} {r : Regs} {w : World}
theorem WG.of {c : Code} (h : WR P n c (Q []) r w) : WG none P n [] c Q r w := by
  intro m a ha
  refine wpIn_wide.2 (wp_mono (h a ⟨ha.size, ha.get, ha.dfr⟩) ?_)
  rintro e a' w' ⟨r', h1, h2⟩
  exact ⟨[], r', ⟨h1.size, h1.get, h1.dfr⟩, h2⟩
theorem WG.mono {c : Code} {Q' : QD} (h : WG z P n ds c Q r w) (hq : ∀ ds e r w, Q ds e r w → Q' ds e r w) : WG z P n ds c Q' r w :=
  fun m a ha => wpIn_mono (h m a ha) fun e a' w' ⟨ds', r', h1, h2⟩ => ⟨ds', r', h1, hq _ _ _ _ h2⟩
theorem WG.skip (h : Q ds .normal r w) : WG z P n ds .skip Q r w := fun _ _ ha => wpIn_skip ⟨_, _, ha, h⟩
theorem WG.ret (h : Q ds .ret r w) : WG z P n ds .ret Q r w := fun _ _ ha => wpIn_ret ⟨_, _, ha, h⟩
theorem WG.exit {id : Nat} (h : Q ds (.exit id) r w) : WG z P n ds (.exit id) Q r w := fun _ _ ha => wpIn_exit ⟨_, _, ha, h⟩
theorem WG.seq {x y : Code} (h : WG z P n ds x (thenD (fun ds' r' w' => WG z P n ds' y Q r' w') Q) r w) : WG z P n ds (.seq x y) Q r w := by
  intro m a ha
  refine wpIn_seq (wpIn_mono (h m a ha) ?_)
  rintro e a' w' ⟨ds', r', h1, h2⟩
  cases e with
  | normal => exact h2 m a' h1
  | exit id => exact ⟨ds', r', h1, h2⟩
  | goto l => exact ⟨ds', r', h1, h2⟩
  | ret => exact ⟨ds', r', h1, h2⟩
  | panic c => exact ⟨ds', r', h1, h2⟩
  | outgrown => exact ⟨ds', r', h1, h2⟩
theorem WG.block {id : Nat} {c : Code} (h : WG z P n ds c (blockD id Q) r w) : WG z P n ds (.block id c) Q r w := by
  intro m a ha
  refine wpIn_block (wpIn_mono (h m a ha) ?_)
  rintro e a' w' ⟨ds', r', h1, h2⟩
  cases e with
  | exit id' =>
    by_cases hid : id' = id
    · subst hid
      simp only [Exit.inBlock, if_true]
      simp only [blockD, Nat.beq_refl, cond_true] at h2
      exact ⟨ds', r', h1, h2⟩
    · simp only [Exit.inBlock, if_neg hid]
      have : Nat.beq id' id = false := Bool.eq_false_iff.2 (fun e => hid (Nat.eq_of_beq_eq_true e))
      simp only [blockD, this, cond_false] at h2
      exact ⟨ds', r', h1, h2⟩
  | normal => exact ⟨ds', r', h1, h2⟩
  | goto l => exact ⟨ds', r', h1, h2⟩
  | ret => exact ⟨ds', r', h1, h2⟩
  | panic c => exact ⟨ds', r', h1, h2⟩
  | outgrown => exact ⟨ds', r', h1, h2⟩
theorem WG.cond {c : Operand} {x y : Code} {t : Bool} (hc : B.ev r c = .bool t) (ht : t = true → WG z P n ds x Q r w) (hf : t = false → WG z P n ds y Q r w) : WG z P n ds (.cond c x y) Q r w := by
  intro m a ha
  exact wpIn_cond_split (t := t) (by rw [ha.ev]; exact hc) (fun e => ht e m a ha) (fun e => hf e m a ha)
theorem WG.condD {c : Operand} {x y : Code} {p : Prop} [Decidable p] (hc : B.ev r c = .bool (decide p)) (ht : p → WG z P n ds x Q r w) (hf : ¬ p → WG z P n ds y Q r w) : WG z P n ds (.cond c x y) Q r w :=
  WG.cond hc (fun e => ht (by simpa using e)) (fun e => hf (by simpa using e))
theorem WG.condT {c : Operand} {x y : Code} (hc : B.ev r c = .bool true) (h : WG z P n ds x Q r w) : WG z P n ds (.cond c x y) Q r w :=
  WG.cond hc (fun _ => h) (fun e => by cases e)
theorem WG.condF {c : Operand} {x y : Code} (hc : B.ev r c = .bool false) (h : WG z P n ds y Q r w) : WG z P n ds (.cond c x y) Q r w :=
  WG.cond hc (fun e => by cases e) (fun _ => h)
theorem WG.loop {c : Code} (I : Nat → Regs → World → Prop) {m0 : Nat} (h0 : I m0 r w)
    (round : ∀ m r w, I m r w → WG z P n ds c (thenD (fun ds' r' w' => ds' = ds ∧ ∃ m', m' < m ∧ I m' r' w') Q) r w) : WG z P n ds (.loop c) Q r w := by
  intro mm a ha b k cs hro hb hr
  have key : ∀ m a r w, RD n ds a r → I m r w → ∃ e a' w', (∃ ds' r', RD n ds' a' r' ∧ Q ds' e r' w') ∧ ArrivesIn (Machine.fenced P (Fz z)) P (lone (b.atR a (.code c :: .inLoop c :: k)) cs w) b k cs e a' w' := by
    intro m
    induction m using Nat.strongRecOn with
    | _ m ih =>
      intro a r w ha hI
      obtain ⟨e, a₁, w₁, ⟨ds₁, r₁, ha₁, hq⟩, harr⟩ := round m r w hI mm a ha b (.inLoop c :: k) cs hro hb hr
      cases e with
      | normal =>
        obtain ⟨hds, m', hlt, hI'⟩ := hq
        subst hds
        obtain ⟨e₂, a₂, w₂, hq₂, harr₂⟩ := ih m' hlt a₁ r₁ w₁ ha₁ hI'
        exact ⟨e₂, a₂, w₂, hq₂, .of_steps (StepsIn.trans harr (.one (fenced_calm hb hr rfl) stepR_inLoop)) harr₂⟩
      | exit id => exact ⟨_, a₁, w₁, ⟨ds₁, r₁, ha₁, hq⟩, .pass (x := .inLoop c) rfl (fun _ _ => .inl (by simp)) harr⟩
      | goto l => exact ⟨_, a₁, w₁, ⟨ds₁, r₁, ha₁, hq⟩, .pass (x := .inLoop c) rfl (fun _ _ => .inl (by simp)) harr⟩
      | ret => exact ⟨_, a₁, w₁, ⟨ds₁, r₁, ha₁, hq⟩, .pass (x := .inLoop c) rfl (fun _ _ => .inl (by simp)) harr⟩
      | panic ch => exact ⟨_, a₁, w₁, ⟨ds₁, r₁, ha₁, hq⟩, .pass (x := .inLoop c) rfl (fun _ _ => .inl (by simp)) harr⟩
      | outgrown => exact ⟨_, a₁, w₁, ⟨ds₁, r₁, ha₁, hq⟩, .pass (x := .inLoop c) rfl (fun _ _ => .inl (by simp)) harr⟩
  obtain ⟨e, a', w', hq, harr⟩ := key m0 a r w ha h0
  exact ⟨e, a', w', hq, .of_steps (.one (fenced_calm hb hr rfl) stepR_loop) harr⟩
theorem WG.loopE {c : Code} (I : Regs → Nat → Regs → World → Prop) {m0 : Nat} (h0 : I r m0 r w)
    (round : ∀ m r1 w1, I r m r1 w1 → WG z P n ds c (thenD (fun ds' r' w' => ds' = ds ∧ ∃ m', m' < m ∧ I r m' r' w') Q) r1 w1) : WG z P n ds (.loop c) Q r w :=
  WG.loop (I r) h0 round
theorem WG.cutE {x y : Code} {J : Regs → Regs → World → Prop} (h : WG z P n ds x (thenD (fun ds' r' w' => ds' = ds ∧ J r r' w') Q) r w) (h2 : ∀ rr w', J r rr w' → WG z P n ds y Q rr w') : WG z P n ds (.seq x y) Q r w :=
  WG.seq (WG.mono h fun ds' e r w hq => by cases e <;> first | (obtain ⟨rfl, hq⟩ := hq; exact h2 _ _ hq) | exact hq)
end

/-! ## regions -/
theorem exec_defer {ρ : Operand → Value} {o : Oper} {c : Call} (h : o.op = .defer c) (P : Program) (w : World) : (execOp ρ o).run P w = ((resolve ρ c o.type).run P w).andThen fun d w' => .ok (.defer d) w' := by
  unfold execOp; rw [h]; simp [Sem.run_bind]
theorem ROp.noDefer {P : Program} {o : Oper} {ρ : Operand → Value} {w : World} {K : Value → World → Prop} (h : ROp P o ρ w K) : ∀ c, o.op ≠ .defer c := by
  intro c hc
  unfold ROp at h
  rw [exec_defer hc] at h
  revert h
  cases (resolve ρ c o.type).run P w <;> intro h <;> exact False.elim h
theorem ROp.wpIn {z : Option Nat} {m : Nat} {P : Program} {o : Oper} {a : Act} {w : World} {K : Value → World → Prop} {next : Act → World → Prop} {Q : Exit → Act → World → Prop}
    (h : ROp P o a.eval w K) (hk : ∀ v w', K v w' → next (a.put o.dst v) w') : o.wpIn (Fz z) m P a w next Q := by
  refine ⟨fun f _ => fzAll z f, ?_⟩
  rw [Oper.semAt_eq _ _ _ h.noDefer]
  unfold ROp at h
  generalize (execOp a.eval o).run P w = res at h ⊢
  split at h
  · exact hk _ _ h
  · exact hk _ _ h
  · rw [Oper.uponIn_enter]
    refine ⟨fun hd => (by rw [fzDepth] at hd; cases hd), ?_⟩
    have hc : ∀ f args w' R, Calls P f args w' R → CallsIn (Fz z) (m - 1) P f args w' R := fun f args w' R hC => by
      cases z with
      | none => exact callsIn_wide.2 hC
      | some l => exact CallsIn.inRound l (callsIn_wide.2 hC)
    refine hc _ _ _ _ (Calls.mono h ?_)
    rintro e w' ⟨v, rfl, hv⟩
    exact hk _ _ hv
  · exact h.elim
theorem want_eqD {n : Nat} {ds : List Deferred} {a : Act} {r : Regs} (ha : RD n ds a r) (ops : Array Oper) (hd : ops.all (fun o => dstOK n o.dst) = true) (o : Oper) :
    Region.wanted o (yielded ops a.tmps) = wantR o ops r := want_eq ha.ra ops hd o
theorem WS.soundG {z : Option Nat} {m : Nat} {P : Program} {n : Nat} {ds : List Deferred} {ops : Array Oper} {Q1 : Exit → Regs → World → Prop} {Q : Exit → Act → World → Prop} (hd : ops.all (fun o => dstOK n o.dst) = true)
    (rest : List Nat) (hq : ∀ a r w, RD n ds a r → Q1 .normal r w → wpOpsIn (Fz z) m P ops Q rest a w) :
    ∀ (os pre suf : List Oper) (_ : ops.toList = pre ++ os ++ suf) (r : Regs) (w : World) (a : Act), RD n ds a r → WS P ops Q1 os r w →
      wpOpsIn (Fz z) m P ops Q (List.range' pre.length os.length ++ rest) a w := by
  intro os
  induction os with
  | nil => intro pre suf _ r w a ha h; exact hq _ _ _ ha h
  | cons o os ih =>
    intro pre suf hp r w a ha h
    have hi : ops[pre.length]? = some o := by rw [← Array.getElem?_toList, hp]; simp
    have hdo : dstOK n o.dst = true := Array.all_eq_true_iff_forall_mem.1 hd o (Array.mem_of_getElem? hi)
    have hih := ih (pre ++ [o]) suf (by rw [hp]; simp)
    rw [List.length_append, List.length_singleton] at hih
    rw [List.length_cons, List.range'_succ, List.cons_append]
    unfold wpOpsIn
    simp only [hi]
    rw [want_eqD ha ops hd]
    unfold WS at h
    cases hw : wantR o ops r with
    | true =>
      rw [hw] at h
      simp only [if_true]
      refine ROp.wpIn (K := fun v w' => WS P ops Q1 os (updO r o.dst v) w') (by rw [ha.ev]; exact h) ?_
      intro v w' hv
      exact hih _ _ _ (ha.put hdo v) hv
    | false =>
      rw [hw] at h
      simp only [Bool.false_eq_true, if_false]
      exact ⟨fun f _ => fzAll z f, hih _ _ _ (ha.put hdo undef) h⟩
section
variable {z : Option Nat} {P : Program} {n : Nat} {ds : List Deferred} {Q : QD} {r : Regs} {w : World}
theorem WG.region {id : Nat} {ops : Array Oper} (hd' : ops.toList.all (fun o => dstOK n o.dst) = true) (h : WS P ops (Q ds) ops.toList r w) : WG z P n ds (.region id ops false) Q r w := by
  have hd : ops.all (fun o => dstOK n o.dst) = true := by rwa [← Array.all_toList]
  intro m a ha
  refine wpIn_region ?_
  have := WS.soundG (z := z) (m := m) (P := P) (Q1 := Q ds) (Q := fun e a' w' => ∃ ds' r', RD n ds' a' r' ∧ Q ds' e r' w') hd [] (fun a r w ha h => ⟨ds, r, ha, h⟩) ops.toList [] [] (by simp) r w a ha h
  rwa [List.append_nil, List.length_nil, Array.length_toList, ← List.range_eq_range'] at this
end

/-! ## yield -/
/-- A call of yield within an iterator: the round that it asks for. -/
def Yld (P : Program) (l : Nat) (args : Array Value) (w : World) (K : Bool → World → Prop) : Prop := YieldAt Fence.wide 0 P l args w (fun e w' => ∃ b, e = .returned (.bool b) ∧ K b w')
theorem Yld.mono {P : Program} {l : Nat} {args : Array Value} {w : World} {K K' : Bool → World → Prop} (h : Yld P l args w K) (hk : ∀ b w', K b w' → K' b w') : Yld P l args w K' := by
  obtain ⟨fn, tmps, as, bd, h1, h2⟩ := h
  exact ⟨fn, tmps, as, bd, h1, h2.mono fun e w' ⟨b, e1, h3⟩ => ⟨b, e1, hk _ _ h3⟩⟩
section
variable {P : Program} {n : Nat} {ds : List Deferred} {Q : QD} {r : Regs} {w : World}
/-- A region in which yield is called once: what is ahead of it, the call (if it is wanted), what is behind it. -/
theorem WG.regionY {id : Nat} {ops : Array Oper} (i : Nat) {o : Oper} {c : Call} {pre post : List Oper} (hd' : ops.toList.all (fun o => dstOK n o.dst) = true) (hl : ops.toList = pre ++ o :: post) (hi : pre.length = i) (hc : o.op = .call c)
    (h : WS P ops (fun _ r1 w1 => bif wantR o ops r1 then ∃ l args, (execOp (ev r1) o).run P w1 = (Instr.yield l args).run P w1 ∧ Yld P l args w1 (fun b w2 => WS P ops (Q ds) post (updO r1 o.dst (.bool b)) w2) else WS P ops (Q ds) post (updO r1 o.dst undef) w1) pre r w) :
    WG none P n ds (.region id ops false) Q r w := by
  have hd : ops.all (fun o => dstOK n o.dst) = true := by rwa [← Array.all_toList]
  subst hi
  intro m a ha
  refine wpIn_region ?_
  have hsz : ops.size = pre.length + (1 + post.length) := by
    have := congrArg List.length hl
    rw [Array.length_toList, List.length_append, List.length_cons] at this; omega
  have hrange : List.range ops.size = List.range' 0 pre.length ++ (pre.length :: List.range' (pre.length + 1) post.length) := by
    rw [List.range_eq_range', hsz, ← List.range'_append_1, Nat.zero_add, Nat.add_comm 1, List.range'_succ]
  have hio : ops[pre.length]? = some o := by rw [← Array.getElem?_toList, hl]; simp
  have hdo : dstOK n o.dst = true := Array.all_eq_true_iff_forall_mem.1 hd o (Array.mem_of_getElem? hio)
  have hpost : ∀ a r w, RD n ds a r → WS P ops (Q ds) post r w → wpOpsIn (Fz none) m P ops (fun e a' w' => ∃ ds' r', RD n ds' a' r' ∧ Q ds' e r' w') (List.range' (pre.length + 1) post.length) a w := by
    intro a r w ha h
    have := WS.soundG (z := none) (m := m) (P := P) (Q1 := Q ds) (Q := fun e a' w' => ∃ ds' r', RD n ds' a' r' ∧ Q ds' e r' w') hd [] (fun a r w ha h => ⟨ds, r, ha, h⟩) post (pre ++ [o]) [] (by rw [hl]; simp) r w a ha h
    rwa [List.append_nil, List.length_append, List.length_singleton] at this
  rw [hrange]
  refine WS.soundG hd _ ?_ pre [] (o :: post) (by rw [hl]; rfl) r w a ha h
  intro a r1 w1 ha h
  unfold wpOpsIn
  simp only [hio]
  rw [want_eqD ha ops hd]
  cases hw : wantR o ops r1 with
  | false =>
    rw [hw] at h
    simp only [Bool.false_eq_true, if_false]
    exact ⟨fun f _ => fzAll none f, hpost _ _ _ (ha.put hdo undef) h⟩
  | true =>
    rw [hw] at h
    simp only [if_true]
    obtain ⟨l, args, he, fn, tmps, as, bd, h1, h2⟩ := h
    refine ⟨fun f _ => fzAll none f, ?_⟩
    rw [Oper.semAt_eq _ _ _ (fun c' h' => by rw [hc] at h'; cases h'), ha.ev, he, h1]
    rw [Oper.uponIn_round]
    refine ⟨fun hd => (by rw [fzDepth] at hd; cases hd), ?_⟩
    have h3 : RoundIn (Fz none) (m - 1) P l fn tmps as bd w1 _ := ⟨trivial, fun c cs _ => h2.2 c cs (room_wide _)⟩
    refine h3.mono ?_
    rintro e w' ⟨b, rfl, hv⟩
    exact hpost _ _ _ (ha.put hdo _) hv
end

/-! ## the loop -/
def recC (l : Nat) (o : Loop) : HP := fun h => h l = some (.loop o)
def defC (D : Nat) : HP := fun h => h D = some (.deferred (some []))
abbrev mark (D : Nat) : Deferred := { target := .collected D, args := #[] }
theorem St.objAt {w : World} {R : Kn} {L : List HP} {l : Nat} {o : Obj} (s : St w R ((fun h => h l = some o) :: L)) : w.heap[l]? = some o := by
  obtain ⟨h, h1, h2, _⟩ := s.see; exact h2 _ _ h1
theorem St.putObj {w : World} {R : Kn} {L : List HP} {l : Nat} {o o' : Obj} (s : St w R ((fun h => h l = some o) :: L)) : St (w.putObj l o') R ((fun h => h l = some o') :: L) := by
  have hlt : l < w.heap.size := (Array.getElem?_eq_some_iff.1 s.objAt).1
  refine s.turn rfl rfl rfl (fun h hh hle => ⟨fun b => if b = l then some o' else none, by simp, fun b o2 e => ?_, fun b o2 e => ?_, fun b hb hn => ?_⟩)
  · by_cases hbl : b = l
    · subst hbl; simp at e; subst e; exact World.putObj_heap_same hlt
    · simp [hbl] at e
  · by_cases hbl : b = l
    · subst hbl; exact .inl ⟨_, hh⟩
    · simp [hbl] at e
  · refine World.putObj_heap_other (fun e => ?_)
    subst e; rw [hh] at hn; cases hn
theorem St.newObj {w : World} {R : Kn} {L : List HP} (s : St w R L) (o : Obj) : St (w.alloc o) R ((fun h => h w.heap.size = some o) :: L) := by
  refine s.make rfl rfl rfl ⟨fun b => if b = w.heap.size then some o else none, by simp, fun b o2 e => ?_, fun b o2 e => ?_⟩ (fun b hb => Below.heap_alloc w o b hb)
  · by_cases hbl : b = w.heap.size
    · subst hbl; simp at e; subst e; exact World.alloc_heap_new w _
    · simp [hbl] at e
  · by_cases hbl : b = w.heap.size
    · omega
    · simp [hbl] at e
theorem St.front {w : World} {R : Kn} {H : HP} {A L : List HP} (s : St w R (A ++ H :: L)) : St w R (H :: (A ++ L)) := s.perm List.perm_middle
theorem St.behind {w : World} {R : Kn} {H : HP} {A L : List HP} (s : St w R (H :: (A ++ L))) : St w R (A ++ H :: L) := s.perm List.perm_middle.symm

/-- An iterator that changes nothing of its own, and what comes of it: for whatever is done in its rounds. -/
def Iter {α : Type} (P : Program) (gf : Nat) (lb : Array Value) (enc : α → Array Value) (xs : List α) (R0 : Kn) : Prop :=
  ∀ (l : Nat) (J : List α → World → Prop) (Jx : World → Prop) (W : World),
    (∀ pre W, J pre W → ∃ R' L', R0.le R' ∧ St W R' L') →
    (∀ pre x suf W, pre ++ x :: suf = xs → J pre W → Yld P l (enc x) W (fun b W' => (b = true ∧ J (pre ++ [x]) W') ∨ (b = false ∧ Jx W'))) →
    J [] W → Fn P gf (#[.func (.yield l) #[] #[]] ++ lb) W (fun _ W' => J xs W' ∨ Jx W')

def setp (ps : Array Tmp) (vs : Array Value) (r : Regs) : Regs := (ps.zip vs).toList.foldl (fun r q => upd r q.1 q.2) r
theorem RD.setp {n : Nat} {tmps : Array Value} {r : Regs} (ps : Array Tmp) (vs : Array Value) (hp : ps.all (fun p => Nat.blt p n) = true) (hs : tmps.size = n) (hg : ∀ t, tmps.getD t undef = r t) :
    RD n [] { tmps := (ps.zip vs).foldl (fun tmps (t, a) => tmps.setIfInBounds t a) tmps, defers := [] } (B.setp ps vs r) := by
  unfold B.setp
  rw [← Array.foldl_toList]
  have hall : ∀ q ∈ (ps.zip vs).toList, q.1 < n := by
    intro q hq
    rw [Array.toList_zip] at hq
    have := (List.of_mem_zip (a := q.1) (b := q.2) hq).1
    have := Array.all_eq_true_iff_forall_mem.1 hp q.1 (Array.mem_toList_iff.1 this)
    simpa [Nat.blt_eq] using this
  generalize (ps.zip vs).toList = l at hall
  induction l generalizing tmps r with
  | nil => exact ⟨hs, hg, rfl⟩
  | cons q l ih =>
    rw [List.foldl_cons, List.foldl_cons]
    have hR : RA n { tmps := tmps, defers := [] } r := ⟨hs, hg, rfl⟩
    have h1 := hR.put (d := some q.1) (by simpa [dstOK, Nat.blt_eq] using hall q (List.mem_cons_self ..)) q.2
    exact ih h1.size h1.get (fun q' h' => hall q' (List.mem_cons_of_mem _ h'))

/-- What a round must have done at its end. -/
def roundD {α : Type} (R : Kn) (Inv : List α → Kn → List HP → Prop) (InvX : Kn → List HP → Prop) (pre : List α) (T : List HP) : QD
  | ds, .normal, _, w => ds = [] ∧ ∃ Rk Lk, R.le Rk ∧ Inv pre Rk Lk ∧ St w Rk (Lk ++ T)
  | ds, .ret, _, w => ds = [] ∧ ∃ Rk Lk, R.le Rk ∧ InvX Rk Lk ∧ St w Rk (Lk ++ T)
  | _, _, _, _ => False

theorem WG.rangeFunc {α : Type} {P : Program} {n : Nat} {Q : QD} {r : Regs} {w : World} {g : Operand} {ps : Array Tmp} {assign body : Code} {gf : Nat} {lb : Array Value} {enc : α → Array Value} {xs : List α} {R : Kn} {Lc T : List HP}
    (Inv : List α → Kn → List HP → Prop) (InvX : Kn → List HP → Prop) (f : Regs → α → Regs)
    (s : St w R (Lc ++ T)) (hg : B.ev r g = .func (.func gf) #[] lb) (eg : ∀ args w, (callFunc gf args).run P w = .ok (.enter gf args) w) (hps : ∀ x, (enc x).size = ps.size) (hpn' : ps.toList.all (fun p => Nat.blt p n) = true)
    (it : Iter P gf lb enc xs R) (h0 : Inv [] R Lc)
    (hassign : ∀ l x W (K : Regs → World → Prop), K (f r x) W → WG (some l) P n [] assign (thenD (fun ds' r' w' => ds' = [] ∧ K r' w') (fun _ _ _ _ => False)) (B.setp ps (enc x) r) W)
    (hbody : ∀ l T' pre x suf Rk Lk W, pre ++ x :: suf = xs → R.le Rk → Inv pre Rk Lk → St W Rk (Lk ++ T') → WG (some l) P n [] body (roundD R Inv InvX (pre ++ [x]) T') (f r x) W)
    (hdone : ∀ D Rk Lk W, R.le Rk → Inv xs Rk Lk → St W Rk (Lk ++ (defC D :: T)) → Q [mark D] .normal r W)
    (hstop : ∀ D Rk Lk W, R.le Rk → InvX Rk Lk → St W Rk (Lk ++ (defC D :: T)) → Q [mark D] .ret r W) :
    WG none P n [] (.rangeFunc g ps assign body) Q r w := by
  have hpn : ps.all (fun p => Nat.blt p n) = true := by rwa [← Array.all_toList]
  intro m a ha
  refine wpIn_rangeFunc ?_
  intro fn hfn
  obtain ⟨rec, hrec⟩ : ∃ rec : LoopState → Option Code → Loop, rec = fun st pe => { state := st, pending := pe, fn, tmps := a.tmps, params := ps, assign, body, defers := w.heap.size } := ⟨_, rfl⟩
  obtain ⟨W1, hW1⟩ : ∃ W1, (w.alloc (.deferred (some []))).alloc (.loop (rec .ready none)) = W1 := ⟨_, rfl⟩
  have s1 : St W1 R (recC (w.heap.size + 1) (rec .ready none) :: defC w.heap.size :: (Lc ++ T)) := by
    have := (s.newObj (.deferred (some []))).newObj (.loop (rec .ready none))
    rw [World.size_alloc, hW1] at this
    exact this
  have s2 : St W1 R (Lc ++ (recC (w.heap.size + 1) (rec .ready none) :: defC w.heap.size :: T)) := (s1.perm ((List.Perm.cons _ List.perm_middle.symm).trans List.perm_middle.symm))
  refine ⟨w.heap.size + 1, [mark w.heap.size], W1, { target := .fn (.func gf) lb, args := #[.func (.yield (w.heap.size + 1)) #[] #[]] }, W1, gf,
    #[.func (.yield (w.heap.size + 1)) #[] #[]] ++ lb, W1, ?_, ?_, fun f' _ => fzAll none f', ?_, fun hd => (by rw [fzDepth] at hd; cases hd), ?_⟩
  · rw [← hW1, hrec]; exact run_enterLoop_outer _ _ _ _ _
  · have hg' : a.eval g = .func (.func gf) #[] lb := by rw [ha.ev]; exact hg
    simp only [resolve, hg']
    simp [go_sem]
  · simp [invoke, go_sem, eg]
  · have hfin := it (w.heap.size + 1)
      (fun pre W => ∃ Rk Lk, R.le Rk ∧ Inv pre Rk Lk ∧ St W Rk (Lk ++ (recC (w.heap.size + 1) (rec .ready none) :: defC w.heap.size :: T)))
      (fun W => ∃ Rk Lk, R.le Rk ∧ InvX Rk Lk ∧ St W Rk (Lk ++ (recC (w.heap.size + 1) (rec .done (some .ret)) :: defC w.heap.size :: T)))
      W1 (fun pre W ⟨Rk, Lk, h1, _, h3⟩ => ⟨Rk, _, h1, h3⟩) ?_ ⟨R, Lc, Kn.le.refl _, h0, s2⟩
    · refine callsIn_wide.2 (Calls.mono hfin ?_)
      rintro e W2 ⟨v, rfl, (⟨Rk, Lk, h1, h2, h3⟩ | ⟨Rk, Lk, h1, h2, h3⟩)⟩
      · have hl : W2.heap[w.heap.size + 1]? = some (.loop (rec .ready none)) := h3.front.objAt
        refine ⟨none, W2.putObj (w.heap.size + 1) (.loop { rec .ready none with state := .exhausted }), by have := run_endLoop (P := P) hl (by rw [hrec]; simp); rw [hrec] at this ⊢; exact this, ?_⟩
        refine ⟨[mark w.heap.size], r, ⟨ha.size, ha.get, by rw [ha.dfr]; rfl⟩, hdone _ _ _ _ h1 h2 ?_⟩
        exact (St.putObj h3.front).drop
      · have hl : W2.heap[w.heap.size + 1]? = some (.loop (rec .done (some .ret))) := h3.front.objAt
        refine ⟨some .ret, W2.putObj (w.heap.size + 1) (.loop { rec .done (some .ret) with state := .exhausted }), by have := run_endLoop (P := P) hl (by rw [hrec]; simp); rw [hrec] at this ⊢; exact this, ?_⟩
        refine wpIn_ret ⟨[mark w.heap.size], r, ⟨ha.size, ha.get, by rw [ha.dfr]; rfl⟩, hstop _ _ _ _ h1 h2 ?_⟩
        exact (St.putObj h3.front).drop
    · rintro pre x suf W hx ⟨Rk, Lk, h1, h2, h3⟩
      have hl : W.heap[w.heap.size + 1]? = some (.loop (rec .ready none)) := h3.front.objAt
      have hy := run_yield (P := P) (args := enc x) hl (by rw [hrec]; exact hps x)
      rw [hrec] at hy
      refine ⟨fn, _, assign, body, hy, roundIn_of_wpIn trivial ?_⟩
      have hA := hassign (w.heap.size + 1) x W (fun r' w' => r' = f r x ∧ w' = W) ⟨rfl, rfl⟩
      refine wpIn_mono (hA _ _ (RD.setp ps (enc x) hpn ha.size ha.get)) ?_
      rintro e a₁ w₁ ⟨ds', r', g1, g2⟩
      cases e with
      | normal =>
        obtain ⟨rfl, rfl, rfl⟩ := g2
        refine ⟨_, run_beginRound hl (by rw [hrec]), ?_⟩
        have s3 : St (w₁.putObj (w.heap.size + 1) (.loop { rec .ready none with state := .busy })) Rk (Lk ++ (recC (w.heap.size + 1) { rec .ready none with state := .busy } :: defC w.heap.size :: T)) := St.behind (St.putObj h3.front)
        refine wpIn_mono (hbody (w.heap.size + 1) _ pre x suf Rk Lk _ hx h1 h2 s3 _ _ g1) ?_
        rintro e a₂ w₂ ⟨ds2, r2, k1, k2⟩
        cases e with
        | normal =>
          obtain ⟨rfl, Rk', Lk', q1, q2, q3⟩ := k2
          have hl2 : w₂.heap[w.heap.size + 1]? = some (.loop { rec .ready none with state := .busy }) := q3.front.objAt
          refine ⟨_, _, run_endRound none hl2, true, rfl, .inl ⟨rfl, Rk', Lk', q1, q2, ?_⟩⟩
          have := St.behind (St.putObj (o' := .loop { ({ rec .ready none with state := .busy } : Loop) with state := if (none : Option Code).isNone then .ready else .done, pending := none }) q3.front)
          rw [hrec] at this ⊢
          exact this
        | ret =>
          obtain ⟨rfl, Rk', Lk', q1, q2, q3⟩ := k2
          have hl2 : w₂.heap[w.heap.size + 1]? = some (.loop { rec .ready none with state := .busy }) := q3.front.objAt
          refine ⟨_, _, run_endRound (some .ret) hl2, false, rfl, .inr ⟨rfl, Rk', Lk', q1, q2, ?_⟩⟩
          have := St.behind (St.putObj (o' := .loop { ({ rec .ready none with state := .busy } : Loop) with state := if (some Code.ret : Option Code).isNone then .ready else .done, pending := some .ret }) q3.front)
          rw [hrec] at this ⊢
          exact this
        | exit id => exact k2.elim
        | goto t => exact k2.elim
        | panic c => exact k2.elim
        | outgrown => exact k2.elim
      | ret => exact g2.elim
      | exit id => exact g2.elim
      | goto t => exact g2.elim
      | panic c => exact g2.elim
      | outgrown => exact g2.elim

/-! ## a function that holds such a loop -/
def QM (P : Program) (fn : Func) (Post : Value → World → Prop) : QD
  | [], e, r, w => retQ P fn Post e r w
  | [d], e, r, w => ∃ D R L, d = mark D ∧ St w R (defC D :: L) ∧ ∀ w', St w' R L → retQ P fn Post e r w'
  | _, _, _, _ => False
theorem Fn.introG {P : Program} {f : FuncId} {fn : Func} {c : Code} {n : Nat} {args : Array Value} {w : World} {Post : Value → World → Prop}
    (hf : P.funcs[f]? = some fn) (hb : fn.body = some c) (hn : fn.ntmps = n) (hs : Nat.ble args.size n = true)
    (h : WG none P n [] c (QM P fn Post) (regs0 args) w) : Fn P f args w Post := by
  subst hn
  have hs' : args.size ≤ fn.ntmps := by simpa using hs
  have h0 := regs0_RA _ _ hs'
  refine callsIn_wide.1 (callsIn_of_wp_marks (n := 0) hf hb trivial (wpIn_mono (h 0 _ ⟨h0.size, h0.get, rfl⟩) ?_))
  rintro e a' w' ⟨ds, r', h1, h2⟩
  have key : ∀ (w2 : World), retQ P fn Post .ret r' w2 → ∃ v, (results fn a'.tmps).run P w2 = .ok v w2 ∧ ∃ v', Ending.returned v = .returned v' ∧ Post v' w2 := fun w2 ⟨vs, h3, h4⟩ => ⟨_, run_results (a := clean a') h1.ra _ _ h3, _, rfl, h4⟩
  have main : QM P fn Post ds .ret r' w' → LeavesInM Fence.wide 0 P fn a'.tmps (fun e w' => ∃ v, e = .returned v ∧ Post v w') a'.defers .returning w' := by
    intro h2
    rw [h1.dfr]
    match ds, h2 with
    | [], h2 => exact key _ h2
    | [d], h2 =>
      obtain ⟨D, R, L, rfl, h3, h4⟩ := h2
      refine ⟨by simp, .inl ⟨D, _, rfl, run_takeDeferred h3.objAt, ?_⟩⟩
      exact key _ (h4 _ (St.putObj (o' := .deferred none) h3).drop)
  have hno : ∀ e, QM P fn Post ds e r' w' → e = .normal ∨ e = .ret := by
    intro e h2
    match ds, h2 with
    | [], h2 => cases e <;> first | exact .inl rfl | exact .inr rfl | exact h2.elim
    | [d], h2 =>
      obtain ⟨D, R, L, rfl, h3, h4⟩ := h2
      have h5 := h4 _ (St.putObj (o' := .deferred none) h3).drop
      cases e <;> first | exact .inl rfl | exact .inr rfl | exact h5.elim
  rcases hno e h2 with rfl | rfl
  · exact main (by match ds, h2 with
      | [], h2 => exact h2
      | [d], h2 => exact h2)
  · exact main h2
theorem retM {P : Program} {fn : Func} {Post : Value → World → Prop} {D : Nat} {r : Regs} {w : World} {R : Kn} {A L : List HP} (s : St w R (A ++ defC D :: L)) (h : ∀ w', St w' R (A ++ L) → retQ P fn Post .ret r w') : QM P fn Post [mark D] .ret r w :=
  ⟨D, R, _, rfl, s.front, h⟩
section
variable {P : Program} {n : Nat} {ds : List Deferred} {Q : QD} {r : Regs} {w : World}
/-- .., told by the call's place. -/
theorem WG.regionYi {id : Nat} {ops : Array Oper} (i : Nat) {o : Oper} {c : Call} {pre post : List Oper} (hd' : ops.toList.all (fun o => dstOK n o.dst) = true) (ho : ops.toList[i]? = some o) (hc : o.op = .call c) (hpre : ops.toList.take i = pre) (hpost : ops.toList.drop (i + 1) = post)
    (h : WS P ops (fun _ r1 w1 => bif wantR o ops r1 then ∃ l args, (execOp (ev r1) o).run P w1 = (Instr.yield l args).run P w1 ∧ Yld P l args w1 (fun b w2 => WS P ops (Q ds) post (updO r1 o.dst (.bool b)) w2) else WS P ops (Q ds) post (updO r1 o.dst undef) w1) pre r w) :
    WG none P n ds (.region id ops false) Q r w := by
  subst hpre hpost
  have hlt := (List.getElem?_eq_some_iff.1 ho).1
  refine WG.regionY i hd' ?_ (by rw [List.length_take]; omega) hc h
  rw [← (List.getElem?_eq_some_iff.1 ho).2, List.getElem_cons_drop, List.take_append_drop]
end
theorem qm0 {P : Program} {fn : Func} {Post : Value → World → Prop} {r : Regs} {w : World} (h : retQ P fn Post .ret r w) : QM P fn Post [] .ret r w := h
theorem bif_T {b : Bool} {p q : Prop} (h : b = true) (hp : p) : bif b then p else q := by rw [h]; exact hp
theorem bif_F {b : Bool} {p q : Prop} (h : b = false) (hq : q) : bif b then p else q := by rw [h]; exact hq
theorem exec_yield {P : Program} {r : Regs} {w : World} {dd : Option Nat} {x : Operand} {as : List Operand} {at_ : Array TypeId} {ty : TypeId} {pos : String} {aft : Array Edge} {g : Option (Nat × Bool)} {l : Nat} {vs : List Value}
    (hx : ev r x = .func (.yield l) #[] #[]) (ha : as.map (ev r) = vs) :
    (execOp (ev r) ⟨dd, .call { callee := .value x, args := as.toArray, argTypes := at_ }, ty, pos, aft, g⟩).run P w = (Instr.yield l vs.toArray).run P w := by
  subst ha
  simp only [execOp, resolve, hx, List.map_toArray]
  simp [Deferred.ofValue, invoke, Sem.run_bind, go_sem]
end Go.Proofs.Ytiffedgmageiaaa.B

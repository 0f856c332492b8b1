/- Regions that draw their order and change something: what only reads is taken first, the rest comes in the one order that is left. -/
import Derived.Test.YtiffedgmageiaaaMore
import Derived.OrdersHeld
namespace Go.Proofs.Ytiffedgmageiaaa.B
set_option linter.unusedVariables false
set_option linter.unusedSimpArgs false

section
variable {P : Program} {ops : Array Oper} {Q : Exit → Act → World → Prop} {C : World → Prop} {U : Nat → Bool}
def wpAnyU (P : Program) (ops : Array Oper) (Q : Exit → Act → World → Prop) (C : World → Prop) (U : Nat → Bool) : Nat → Array Bool → Act → World → Prop
  | 0, listed, a, w => Region.ready .any ops listed = [] ∧ Q .normal a w
  | fuel + 1, listed, a, w =>
    (Region.ready .any ops listed = [] → Q .normal a w) ∧
    ∀ i ∈ Region.ready .any ops listed, wpOp P ops Q i (fun a' w' => (U i = false → C w → C w') ∧ wpAnyU P ops Q C U fuel (listed.setIfInBounds i true) a' w') a w
theorem wpAny_of_U : ∀ (fuel : Nat) (listed : Array Bool) (a : Act) (w : World), wpAnyU P ops Q C U fuel listed a w → wpAny P .any ops Q fuel listed a w
  | 0, _, _, _, h => h
  | fuel + 1, _, _, _, h => ⟨h.1, fun i hi => wpOp_mono (fun a' w' h' => wpAny_of_U fuel _ a' w' h'.2) (h.2 i hi)⟩
theorem wpAnyU_first {i : Nat} {oi : Oper} {v : Value} (hi : ops[i]? = some oi) (hsel : ∀ (j : Nat) (o : Oper) cs b, ops[j]? = some o → o.op ≠ .select cs b)
    (hQ : ∀ c a w, Q (.panic c) (a.put oi.dst v) w → Q (.panic c) a w)
    (hU : ∀ j oj, ops[j]? = some oj → U j = true → ∃ e ∈ oj.after, Region.binds .any e = true ∧ e.on = i) :
    ∀ (fuel : Nat) (listed : Array Bool) (a : Act) (w : World),
      (∀ j oj, ops[j]? = some oj → j ≠ i → listed.getD j true = false → (∀ e ∈ oj.after, Region.binds .any e = true → e.on ≠ i) → oi.apart ops oj = true) →
      i ∈ Region.ready .any ops listed → YieldsIf P ops C oi v a → C w →
      wpAnyU P ops Q C U fuel (listed.setIfInBounds i true) (a.put oi.dst v) w → wpAnyU P ops Q C U (fuel + 1) listed a w := by
  intro fuel
  induction fuel with
  | zero =>
    intro listed a w _ hr hy hS H
    refine ⟨fun h => (by rw [h] at hr; cases hr), fun j hj => ?_⟩
    by_cases hji : j = i
    · subst hji; exact hy.wpOp hi hS ⟨fun _ _ => hS, H⟩
    · have := ready_mono hj hji
      rw [H.1] at this
      cases this
  | succ fuel ih =>
    intro listed a w hfree hr hy hS H
    refine ⟨fun h => (by rw [h] at hr; cases hr), fun j hj => ?_⟩
    by_cases hji : j = i
    · subst hji; exact hy.wpOp hi hS ⟨fun _ _ => hS, H⟩
    · have h1 := H.2 j (ready_mono hj hji)
      obtain ⟨hjun, oj, hoj, hall⟩ := mem_ready.1 hj
      have hnot : ∀ e ∈ oj.after, Region.binds .any e = true → e.on ≠ i := fun e he hb heq => by
        have h1 := hall e he hb
        have h0 := (mem_ready.1 hr).1
        rw [heq] at h1
        rcases Nat.lt_or_ge i listed.size with h' | h'
        · simp [h'] at h0 h1; rw [h0] at h1; cases h1
        · simp [Array.getElem?_eq_none h'] at h1
      have hUj : U j = false := by
        cases hu : U j with
        | false => rfl
        | true => obtain ⟨e, he, hb, heq⟩ := hU j oj hoj hu; exact absurd heq (hnot e he hb)
      have h2 := wpOp_putIf hoj (hfree j oj hoj hji hjun hnot) (fun cs b => hsel i oi cs b hi) (fun cs b => hsel j oj cs b hoj) hQ hy h1
      have hfree' : ∀ k ok, ops[k]? = some ok → k ≠ i → (listed.setIfInBounds j true).getD k true = false →
          (∀ e ∈ ok.after, Region.binds .any e = true → e.on ≠ i) → oi.apart ops ok = true := fun k ok hk hki hun hno => by
        refine hfree k ok hk hki ?_ hno
        by_cases hjk : j = k
        · subst hjk; exact hjun
        · rw [getD_set_ne true hjk] at hun; exact hun
      refine wpOp_mono (fun a' w' h3 => ⟨fun _ _ => h3.2.1 hUj hS, ih (listed.setIfInBounds j true) a' w' hfree' (ready_mono hr (Ne.symm hji)) h3.1 (h3.2.1 hUj hS) ?_⟩) h2
      rw [Array.setIfInBounds_comm _ _ hji]
      exact h3.2.2
/-- The same of what looks at no memory. -/
theorem wpAnyU_firstP {i : Nat} {oi : Oper} {v : Value} (hi : ops[i]? = some oi) (hsel : ∀ (j : Nat) (o : Oper) cs b, ops[j]? = some o → o.op ≠ .select cs b)
    (hQ : ∀ c a w, Q (.panic c) (a.put oi.dst v) w → Q (.panic c) a w) :
    ∀ (fuel : Nat) (listed : Array Bool) (a : Act) (w : World),
      (∀ j oj, ops[j]? = some oj → j ≠ i → listed.getD j true = false → (∀ e ∈ oj.after, Region.binds .any e = true → e.on ≠ i) → oi.apart ops oj = true) →
      i ∈ Region.ready .any ops listed → YieldsIf P ops (fun _ => True) oi v a →
      wpAnyU P ops Q C U fuel (listed.setIfInBounds i true) (a.put oi.dst v) w → wpAnyU P ops Q C U (fuel + 1) listed a w := by
  intro fuel
  induction fuel with
  | zero =>
    intro listed a w _ hr hy H
    refine ⟨fun h => (by rw [h] at hr; cases hr), fun j hj => ?_⟩
    by_cases hji : j = i
    · subst hji; exact hy.wpOp hi trivial ⟨fun _ h => h, H⟩
    · have := ready_mono hj hji
      rw [H.1] at this
      cases this
  | succ fuel ih =>
    intro listed a w hfree hr hy H
    refine ⟨fun h => (by rw [h] at hr; cases hr), fun j hj => ?_⟩
    by_cases hji : j = i
    · subst hji; exact hy.wpOp hi trivial ⟨fun _ h => h, H⟩
    · have h1 := H.2 j (ready_mono hj hji)
      obtain ⟨hjun, oj, hoj, hall⟩ := mem_ready.1 hj
      have hnot : ∀ e ∈ oj.after, Region.binds .any e = true → e.on ≠ i := fun e he hb heq => by
        have h1 := hall e he hb
        have h0 := (mem_ready.1 hr).1
        rw [heq] at h1
        rcases Nat.lt_or_ge i listed.size with h' | h'
        · simp [h'] at h0 h1; rw [h0] at h1; cases h1
        · simp [Array.getElem?_eq_none h'] at h1
      have h2 := wpOp_putIf hoj (hfree j oj hoj hji hjun hnot) (fun cs b => hsel i oi cs b hi) (fun cs b => hsel j oj cs b hoj) hQ hy h1
      have hfree' : ∀ k ok, ops[k]? = some ok → k ≠ i → (listed.setIfInBounds j true).getD k true = false →
          (∀ e ∈ ok.after, Region.binds .any e = true → e.on ≠ i) → oi.apart ops ok = true := fun k ok hk hki hun hno => by
        refine hfree k ok hk hki ?_ hno
        by_cases hjk : j = k
        · subst hjk; exact hjun
        · rw [getD_set_ne true hjk] at hun; exact hun
      refine wpOp_mono (fun a' w' h3 => ⟨h3.2.1, ih (listed.setIfInBounds j true) a' w' hfree' (ready_mono hr (Ne.symm hji)) h3.1 ?_⟩) h2
      rw [Array.setIfInBounds_comm _ _ hji]
      exact h3.2.2
end

/-- Operations that yield a value and nothing else. -/
def valOp : Op → Bool
  | .move _ | .assign _ | .pick .. | .load .. | .binOp .. | .unOp .. | .convert .. | .fieldAddr .. | .field .. | .indexAddr .. | .index .. | .extract .. | .slice .. | .lookup .. | .nilCheck _ => true
  | _ => false
theorem nilCheck_value {P : Program} {ρ : Operand → Value} {x : Operand} {dst : Option Nat} {type : TypeId} {pos : String} {after : Array Edge} {guard : Option (Nat × Bool)} {w : World} {n : Next} {w' : World} (hr : (execOp ρ ⟨dst, .nilCheck x, type, pos, after, guard⟩).run P w = .ok n w') : ∃ v, n = .value v := by
  have key : ∀ (s : Sem Unit) (u : Value), ((do s; pure (Next.value u) : Sem Next).run P w = .ok n w') → ∃ v, n = .value v := fun s u hs => by
    rw [Sem.run_bind] at hs
    cases hq : s.run P w with
    | ok v w2 => rw [hq] at hs; simp at hs; exact ⟨u, hs.1.symm⟩
    | halt x w2 => rw [hq] at hs; cases hs
  have kp : ∀ {n w'}, (runtimePanic .nilDeref : Sem Next).run P w = .ok n w' → False := by
    intro n w' h
    simp [runtimePanic, goPanic, Sem.run_bind] at h
  unfold execOp at hr
  simp only at hr
  split at hr
  · exact (kp hr).elim
  · exact (kp hr).elim
  · exact (kp hr).elim
  · split at hr
    · exact (kp hr).elim
    · have kb : ∀ {α : Type} (s : Sem α) (f : α → Sem Next), (∀ a w1 n w2, (f a).run P w1 = .ok n w2 → ∃ v, n = .value v) → ∀ w1 n w2, (s >>= f).run P w1 = .ok n w2 → ∃ v, n = .value v := fun s f hf w1 n w2 h => by
        rw [Sem.run_bind] at h
        cases hq : s.run P w1 with
        | ok a w3 => rw [hq] at h; exact hf a w3 n w2 h
        | halt x w3 => rw [hq] at h; cases h
      refine kb _ _ (fun p w1 n w2 h => kb _ _ (fun b w1 n w2 h => ?_) _ _ _ h) _ _ _ hr
      by_cases hb : (b != some false) = true
      · rw [if_pos hb] at h
        exact kb _ _ (fun _ w1 n w2 h => by simp at h; exact ⟨_, h.1.symm⟩) _ _ _ h
      · rw [if_neg hb] at h
        simp at h; exact ⟨_, h.1.symm⟩
    · simp at hr; exact ⟨_, hr.1.symm⟩
  · simp at hr; exact ⟨_, hr.1.symm⟩
theorem valOp_value {P : Program} {ρ : Operand → Value} {o : Oper} {w : World} (h : valOp o.op = true) {n : Next} {w' : World} (hr : (execOp ρ o).run P w = .ok n w') : ∃ v, n = .value v := by
  have key : ∀ (s : Sem Value), ((do pure (Next.value (← s)) : Sem Next).run P w = .ok n w') → ∃ v, n = .value v := fun s hs => by
    rw [Sem.run_bind] at hs
    cases hq : s.run P w with
    | ok v w2 => rw [hq] at hs; simp at hs; exact ⟨v, hs.1.symm⟩
    | halt x w2 => rw [hq] at hs; cases hs
  cases o with
  | mk dst op type pos after guard =>
    cases op with
    | move x => cases hr; exact ⟨_, rfl⟩
    | assign x => cases hr; exact ⟨_, rfl⟩
    | pick c a b =>
      unfold execOp at hr
      exact key (do pure (if ← asBool (ρ c) then ρ a else ρ b)) (by simpa using hr)
    | load t a => exact key _ hr
    | binOp a b c d e => exact key _ hr
    | unOp a b c => exact key _ hr
    | convert a b c => exact key _ hr
    | fieldAddr a b c => exact key _ hr
    | field a b c => exact key _ hr
    | indexAddr a b c => exact key _ hr
    | index a b c => exact key _ hr
    | extract a b => exact key _ hr
    | slice a b c d e => exact key _ hr
    | lookup a b c d => exact key _ hr
    | nilCheck x => exact nilCheck_value hr
    | _ => cases h

def liftR (n : Nat) (Q : Exit → Regs → World → Prop) : Exit → Act → World → Prop := fun e a' w' => ∃ r', RA n a' r' ∧ Q e r' w'
def noPanic (Q : Exit → Regs → World → Prop) : Prop := ∀ c r w, ¬ Q (.panic c) r w
/-- The walk of such a region: so many have come up. -/
def WA (P : Program) (n : Nat) (ops : Array Oper) (Q : Exit → Regs → World → Prop) (C : World → Prop) (U : Nat → Bool) (fuel : Nat) (listed : List Bool) (r : Regs) (w : World) : Prop :=
  ∀ a, RA n a r → wpAnyU P ops (fun e a' w' => e = .normal ∧ ∃ r', RA n a' r' ∧ Q .normal r' w') C U fuel listed.toArray a w

section
variable {P : Program} {n : Nat} {ops : Array Oper} {Q : Exit → Regs → World → Prop} {C : World → Prop} {U : Nat → Bool} {fuel : Nat} {listed : List Bool} {r : Regs} {w : World}
theorem WR.regionW {id : Nat} {R : Kn} {L : List HP} (U : Nat → Bool) (m : Nat) (hsz : ops.toList.length = m) (hm : P.follows .mixedOrders = true) (s : St w R L)
    (h : ∀ w, St w R L → WA P n ops Q (fun w => St w R L) U m (List.replicate m false) r w) : WR P n (.region id ops true) Q r w := by
  have hsz' : ops.size = m := hsz
  subst hsz'
  intro a ha
  refine wp_region_any hm (wpAny_of_U (C := fun w => St w R L) (U := U) _ _ _ _ ?_)
  have h1 := h _ (s.drawn (w.drawn + 1)) a ha
  have mono : ∀ fuel listed a w, wpAnyU P ops (fun e a' w' => e = .normal ∧ ∃ r', RA n a' r' ∧ Q .normal r' w') (fun w => St w R L) U fuel listed a w →
      wpAnyU P ops (fun e a' w' => ∃ r', RA n a' r' ∧ Q e r' w') (fun w => St w R L) U fuel listed a w := by
    intro fuel
    induction fuel with
    | zero => intro listed a w ⟨h1, h2⟩; obtain ⟨_, h2⟩ := h2; exact ⟨h1, h2⟩
    | succ fuel ih =>
      intro listed a w ⟨h1, h2⟩
      refine ⟨fun hr => (h1 hr).2, fun i hi => ?_⟩
      have h3 := h2 i hi
      unfold wpOp at h3 ⊢
      split at h3
      · rename_i he; simp only [he]; exact ⟨h3.1, ih _ _ _ h3.2⟩
      · rename_i o he
        simp only [he]
        split at h3
        · rename_i hw
          rw [if_pos hw]
          rcases h3 with h3 | ⟨_, ⟨_, _, hq, _⟩⟩
          · left
            unfold Oper.wp at h3 ⊢
            generalize (execOp a.eval o).run P w = res at h3 ⊢
            cases res with
            | ok nx w1 =>
              cases nx <;> simp only [Oper.upon] at h3 ⊢ <;>
                first
                  | exact ⟨h3.1, ih _ _ _ h3.2⟩
                  | (refine Calls.mono h3 (fun e w2 he => ?_); cases e with
                    | returned v => exact ⟨he.1, ih _ _ _ he.2⟩
                    | panicked c => cases he.1
                    | outgrown => obtain ⟨_, _, hq, _⟩ := he; cases hq)
                  | exact Rows.mono h3 (fun v w2 he => ⟨he.1, ih _ _ _ he.2⟩)
            | halt x w1 =>
              cases x <;> simp only [Oper.upon] at h3 ⊢
              cases h3.1
          · cases hq
        · rename_i hw
          rw [if_neg hw]
          exact ⟨h3.1, ih _ _ _ h3.2⟩
  have e : (List.replicate ops.size false).toArray = Array.replicate ops.size false := by simp
  rw [e] at h1
  exact mono _ _ _ _ h1
/-- What only reads, and may come up, is taken. -/
theorem WA.take {o : Oper} {w : World} (i : Nat) (hi' : ops.toList[i]? = some o) (hs : Region.noSelect ops = true) (hf : Region.free .any ops listed.toArray i = true) (hr : (Region.ready .any ops listed.toArray).contains i = true)
    (hU : (List.range ops.size).all (fun j => !U j || ((ops[j]?).map fun oj => oj.after.any fun e => Region.binds .any e && e.on == i).getD false) = true)
    (hd : ops.toList.all (fun o => dstOK n o.dst) = true) (hv : valOp o.op = true) (hC : C w)
    (h : WQ P ops C (fun r' => WA P n ops Q C U fuel (listed.set i true) r' w) [o] r) : WA P n ops Q C U (fuel + 1) listed r w := by
  have hi : ops[i]? = some o := by rw [← Array.getElem?_toList]; exact hi'
  intro a ha
  have hd' : ops.all (fun o => dstOK n o.dst) = true := by rwa [← Array.all_toList]
  have hdo : dstOK n o.dst = true := Array.all_eq_true_iff_forall_mem.1 hd' o (Array.mem_of_getElem? hi)
  have hsel := Region.noSelect_spec hs
  have hUU : ∀ j oj, ops[j]? = some oj → U j = true → ∃ e ∈ oj.after, Region.binds .any e = true ∧ e.on = i := fun j oj hj hu => by
    have := List.all_eq_true.1 hU j (List.mem_range.2 (Array.getElem?_eq_some_iff.1 hj).1)
    rw [hu, hj] at this
    simp only [Bool.not_true, Bool.false_or, Option.map_some, Option.getD_some] at this
    obtain ⟨e, he, hb⟩ := Array.any_eq_true'.1 this
    simp only [Bool.and_eq_true, beq_iff_eq] at hb
    exact ⟨e, he, hb.1, hb.2⟩
  have hlist : (listed.set i true).toArray = listed.toArray.setIfInBounds i true := by simp
  unfold WQ at h
  cases hw : wantR o ops r with
  | true =>
    rw [hw] at h
    obtain ⟨v, h1, h2⟩ := h
    refine wpAnyU_first (v := v) hi hsel (fun c a w hq => by cases hq.1) hUU fuel listed.toArray a w (Region.free_spec hi hf) (by simpa using hr) (.inl ⟨by rw [want_eq ha ops hd']; exact hw, fun w hC => ?_⟩) hC ?_
    · have h3 := h1 w hC
      rw [ha.ev]
      cases hq : (execOp (ev r) o).run P w with
      | ok nx w2 =>
        obtain ⟨u, rfl⟩ := valOp_value hv hq
        rw [hq] at h3
        obtain ⟨rfl, rfl⟩ := h3
        rfl
      | halt x w2 => rw [hq] at h3; exact h3.elim
    · rw [← hlist]; exact h2 _ (ha.put hdo v)
  | false =>
    rw [hw] at h
    refine wpAnyU_first (v := undef) hi hsel (fun c a w hq => by cases hq.1) hUU fuel listed.toArray a w (Region.free_spec hi hf) (by simpa using hr) (.inr ⟨by rw [want_eq ha ops hd']; exact hw, rfl⟩) hC ?_
    rw [← hlist]; exact h _ (ha.put hdo undef)
/-- What looks at no memory, and may come up, is taken. -/
theorem WA.takeP {o : Oper} {w : World} (i : Nat) (hi' : ops.toList[i]? = some o) (hs : Region.noSelect ops = true) (hf : Region.free .any ops listed.toArray i = true) (hr : (Region.ready .any ops listed.toArray).contains i = true)
    (hd : ops.toList.all (fun o => dstOK n o.dst) = true) (hv : valOp o.op = true)
    (h : WQ P ops (fun _ => True) (fun r' => WA P n ops Q C U fuel (listed.set i true) r' w) [o] r) : WA P n ops Q C U (fuel + 1) listed r w := by
  have hi : ops[i]? = some o := by rw [← Array.getElem?_toList]; exact hi'
  intro a ha
  have hd' : ops.all (fun o => dstOK n o.dst) = true := by rwa [← Array.all_toList]
  have hdo : dstOK n o.dst = true := Array.all_eq_true_iff_forall_mem.1 hd' o (Array.mem_of_getElem? hi)
  have hsel := Region.noSelect_spec hs
  have hlist : (listed.set i true).toArray = listed.toArray.setIfInBounds i true := by simp
  unfold WQ at h
  cases hw : wantR o ops r with
  | true =>
    rw [hw] at h
    obtain ⟨v, h1, h2⟩ := h
    refine wpAnyU_firstP (v := v) hi hsel (fun c a w hq => by cases hq.1) fuel listed.toArray a w (Region.free_spec hi hf) (by simpa using hr) (.inl ⟨by rw [want_eq ha ops hd']; exact hw, fun w hC => ?_⟩) ?_
    · have h3 := h1 w hC
      rw [ha.ev]
      cases hq : (execOp (ev r) o).run P w with
      | ok nx w2 =>
        obtain ⟨u, rfl⟩ := valOp_value hv hq
        rw [hq] at h3
        obtain ⟨rfl, rfl⟩ := h3
        rfl
      | halt x w2 => rw [hq] at h3; exact h3.elim
    · rw [← hlist]; exact h2 _ (ha.put hdo v)
  | false =>
    rw [hw] at h
    refine wpAnyU_firstP (v := undef) hi hsel (fun c a w hq => by cases hq.1) fuel listed.toArray a w (Region.free_spec hi hf) (by simpa using hr) (.inr ⟨by rw [want_eq ha ops hd']; exact hw, rfl⟩) ?_
    rw [← hlist]; exact h _ (ha.put hdo undef)
/-- The only one that may come up. -/
theorem WA.one {o : Oper} (i : Nat) (hi' : ops.toList[i]? = some o) (hr : Region.ready .any ops listed.toArray = [i]) (hd : ops.toList.all (fun o => dstOK n o.dst) = true)
    (h : WS P ops (fun _ r' w' => (U i = false → C w') ∧ WA P n ops Q C U fuel (listed.set i true) r' w') [o] r w) : WA P n ops Q C U (fuel + 1) listed r w := by
  have hi : ops[i]? = some o := by rw [← Array.getElem?_toList]; exact hi'
  intro a ha
  have hd' : ops.all (fun o => dstOK n o.dst) = true := by rwa [← Array.all_toList]
  have hdo : dstOK n o.dst = true := Array.all_eq_true_iff_forall_mem.1 hd' o (Array.mem_of_getElem? hi)
  have hlist : (listed.set i true).toArray = listed.toArray.setIfInBounds i true := by simp
  refine ⟨fun h0 => (by rw [hr] at h0; cases h0), fun j hj => ?_⟩
  rw [hr] at hj
  obtain rfl := List.mem_singleton.1 hj
  unfold wpOp
  simp only [hi]
  rw [want_eq ha ops hd']
  unfold WS at h
  cases hw : wantR o ops r with
  | true =>
    rw [hw] at h
    simp only [if_true]
    refine .inl (ROp.wp (K := fun v w' => WS P ops (fun _ r' w' => (U j = false → C w') ∧ WA P n ops Q C U fuel (listed.set j true) r' w') [] (updO r o.dst v) w') (by rw [ha.ev]; exact h) ?_)
    intro v w' hv
    refine ⟨fun hu _ => hv.1 hu, ?_⟩
    rw [← hlist]; exact hv.2 _ (ha.put hdo v)
  | false =>
    rw [hw] at h
    simp only [Bool.false_eq_true, if_false]
    refine ⟨fun hu _ => h.1 hu, ?_⟩
    rw [← hlist]; exact h.2 _ (ha.put hdo undef)
/-- One of two that may come up: both ways. -/
theorem WA.two {o o2 : Oper} (i j : Nat) (hi' : ops.toList[i]? = some o) (hj' : ops.toList[j]? = some o2) (hr : Region.ready .any ops listed.toArray = [i, j]) (hd : ops.toList.all (fun o => dstOK n o.dst) = true)
    (h : WS P ops (fun _ r' w' => (U i = false → C w') ∧ WA P n ops Q C U fuel (listed.set i true) r' w') [o] r w)
    (h2 : WS P ops (fun _ r' w' => (U j = false → C w') ∧ WA P n ops Q C U fuel (listed.set j true) r' w') [o2] r w) : WA P n ops Q C U (fuel + 1) listed r w := by
  have hi : ops[i]? = some o := by rw [← Array.getElem?_toList]; exact hi'
  have hj : ops[j]? = some o2 := by rw [← Array.getElem?_toList]; exact hj'
  intro a ha
  have hd' : ops.all (fun o => dstOK n o.dst) = true := by rwa [← Array.all_toList]
  refine ⟨fun h0 => (by rw [hr] at h0; cases h0), fun k hk => ?_⟩
  have go : ∀ (k : Nat) (o : Oper), ops[k]? = some o → WS P ops (fun _ r' w' => (U k = false → C w') ∧ WA P n ops Q C U fuel (listed.set k true) r' w') [o] r w →
      wpOp P ops (fun e a' w' => e = .normal ∧ ∃ r', RA n a' r' ∧ Q .normal r' w') k (fun a' w' => (U k = false → C w → C w') ∧ wpAnyU P ops (fun e a' w' => e = .normal ∧ ∃ r', RA n a' r' ∧ Q .normal r' w') C U fuel (listed.toArray.setIfInBounds k true) a' w') a w := by
    intro k o hk h
    have hdo : dstOK n o.dst = true := Array.all_eq_true_iff_forall_mem.1 hd' o (Array.mem_of_getElem? hk)
    have hlist : (listed.set k true).toArray = listed.toArray.setIfInBounds k true := by simp
    unfold wpOp
    simp only [hk]
    rw [want_eq ha ops hd']
    unfold WS at h
    cases hw : wantR o ops r with
    | true =>
      rw [hw] at h
      simp only [if_true]
      refine .inl (ROp.wp (K := fun v w' => WS P ops (fun _ r' w' => (U k = false → C w') ∧ WA P n ops Q C U fuel (listed.set k true) r' w') [] (updO r o.dst v) w') (by rw [ha.ev]; exact h) ?_)
      intro v w' hv
      refine ⟨fun hu _ => hv.1 hu, ?_⟩
      rw [← hlist]; exact hv.2 _ (ha.put hdo v)
    | false =>
      rw [hw] at h
      simp only [Bool.false_eq_true, if_false]
      refine ⟨fun hu _ => h.1 hu, ?_⟩
      rw [← hlist]; exact h.2 _ (ha.put hdo undef)
  rw [hr] at hk
  rcases List.mem_cons.1 hk with rfl | hk
  · exact go k o hi h
  · obtain rfl := List.mem_singleton.1 hk
    exact go k o2 hj h2
theorem WA.done (hr : Region.ready .any ops listed.toArray = []) (h : Q .normal r w) : WA P n ops Q C U fuel listed r w := by
  intro a ha
  cases fuel with
  | zero => exact ⟨hr, rfl, r, ha, h⟩
  | succ f => exact ⟨fun _ => ⟨rfl, r, ha, h⟩, fun i hi => by rw [hr] at hi; cases hi⟩
end
end Go.Proofs.Ytiffedgmageiaaa.B

/- Regions that draw their order, within a round of a range over a function, or behind such a loop. -/
import Derived.Test.YtiffedgmageiaaaIterX
import Derived.Test.YtiffedgmageiaaaDraw
namespace Go.Proofs.Ytiffedgmageiaaa.B
set_option linter.unusedVariables false
open Go.RowKit
set_option linter.unusedSimpArgs false
theorem Sep.only : ∀ {A L : List HP} {h : Hp}, Sep (A ++ L) h → Sep A h
  | [], _, _, _ => trivial
  | _ :: _, _, _, ⟨h1, h2, d, a, b, c, e⟩ => ⟨h1, h2, d, a, b, c, Sep.only e⟩
theorem St.only {w : World} {R : Kn} {A L : List HP} (s : St w R (A ++ L)) : St w R A :=
  let ⟨h, a, b, c⟩ := s.own; ⟨s.know, s.os, s.tape, s.output, h, a, b, c.only⟩
theorem WR.regionWC {P : Program} {n : Nat} {ops : Array Oper} {Q : Exit → Regs → World → Prop} {r : Regs} {w : World} {id : Nat} {R : Kn} {L A : List HP} (U : Nat → Bool) (m : Nat) (hsz : ops.toList.length = m) (hm : P.follows .mixedOrders = true) (s : St w R L) (hA : ∀ w, St w R L → St w R A)
    (h : ∀ w, St w R L → WA P n ops Q (fun w => St w R A) U m (List.replicate m false) r w) : WR P n (.region id ops true) Q r w := by
  have hsz' : ops.size = m := hsz
  subst hsz'
  intro a ha
  refine wp_region_any hm (wpAny_of_U (C := fun w => St w R A) (U := U) _ _ _ _ ?_)
  have h1 := h _ (s.drawn (w.drawn + 1)) a ha
  have mono : ∀ fuel listed a w, wpAnyU P ops (fun e a' w' => e = .normal ∧ ∃ r', RA n a' r' ∧ Q .normal r' w') (fun w => St w R A) U fuel listed a w →
      wpAnyU P ops (fun e a' w' => ∃ r', RA n a' r' ∧ Q e r' w') (fun w => St w R A) U fuel listed a w := by
    intro fuel
    induction fuel with
    | zero => intro listed a w ⟨h1, h2⟩; obtain ⟨_, h2⟩ := h2; exact ⟨h1, h2⟩
    | succ fuel ih =>
      intro listed a w ⟨h1, h2⟩
      refine ⟨fun hr => (h1 hr).2, fun i hi => ?_⟩
      have h3 := h2 i hi
      unfold wpOp at h3 ⊢
      split at h3
      · rename_i he; simp only [he]; exact ⟨h3.1, ih _ _ _ h3.2⟩
      · rename_i o he
        simp only [he]
        split at h3
        · rename_i hw
          rw [if_pos hw]
          rcases h3 with h3 | ⟨_, ⟨_, _, hq, _⟩⟩
          · left
            unfold Oper.wp at h3 ⊢
            generalize (execOp a.eval o).run P w = res at h3 ⊢
            cases res with
            | ok nx w1 =>
              cases nx <;> simp only [Oper.upon] at h3 ⊢ <;>
                first
                  | exact ⟨h3.1, ih _ _ _ h3.2⟩
                  | (refine Calls.mono h3 (fun e w2 he => ?_); cases e with
                    | returned v => exact ⟨he.1, ih _ _ _ he.2⟩
                    | panicked c => cases he.1
                    | outgrown => obtain ⟨_, _, hq, _⟩ := he; cases hq)
                  | exact Rows.mono h3 (fun v w2 he => ⟨he.1, ih _ _ _ he.2⟩)
            | halt x w1 =>
              cases x <;> simp only [Oper.upon] at h3 ⊢
              cases h3.1
          · cases hq
        · rename_i hw
          rw [if_neg hw]
          exact ⟨h3.1, ih _ _ _ h3.2⟩
  rw [List.toArray_replicate] at h1
  exact mono _ _ _ _ h1
def dfs (ds : List Deferred) (a : Act) : Act := { a with defers := a.defers ++ ds }
theorem dfs_put {ds : List Deferred} {a : Act} {d : Option Nat} {v : Value} : (dfs ds a).put d v = dfs ds (a.put d v) := by cases d <;> rfl
theorem rows_in {z : Option Nat} {m : Nat} {P : Program} {row : String} {args : Array Value} {w : World} {R : Value → World → Prop} (h : Rows P row args w R) : RowsIn (Fz z) m P row args w R := by
  intro c cs _
  obtain ⟨v, w', h1, h2⟩ := h c cs
  refine ⟨v, w', h1, ?_⟩
  cases z with
  | none => exact stepsIn_wide.2 h2
  | some l => exact stepsIn_wide.2 h2
theorem calls_in {z : Option Nat} {m : Nat} {P : Program} {f : FuncId} {args : Array Value} {w : World} {R : Ending → World → Prop} (h : Calls P f args w R) : CallsIn (Fz z) m P f args w R := by
  cases z with
  | none => exact callsIn_wide.2 h
  | some l => exact CallsIn.inRound l (callsIn_wide.2 h)
def noDef (o : Oper) : Bool := match o.op with | .defer _ => false | _ => true
theorem noDef_ne {o : Oper} (h : noDef o = true) : ∀ c, o.op ≠ .defer c := by
  intro c hc
  unfold noDef at h
  rw [hc] at h; cases h
abbrev onlyN (K : Act → World → Prop) : Exit → Act → World → Prop := fun e a w => e = .normal ∧ K a w
theorem wp_in {z : Option Nat} {m : Nat} {P : Program} {o : Oper} {a : Act} {w : World} {ds : List Deferred} {K : Act → World → Prop} {next next' : Act → World → Prop} {Q' : Exit → Act → World → Prop} (hn : noDef o = true)
    (h : o.wp P a w next (onlyN K)) (hk : ∀ a w, next a w → next' (dfs ds a) w) : o.wpIn (Fz z) m P (dfs ds a) w next' Q' := by
  refine ⟨fun f _ => fzAll z f, ?_⟩
  rw [Oper.semAt_eq _ _ _ (noDef_ne hn)]
  unfold Oper.wp at h
  have he : (dfs ds a).eval = a.eval := rfl
  rw [he]
  generalize (execOp a.eval o).run P w = res at h ⊢
  cases res with
  | ok nx w1 =>
    cases nx with
    | value v => rw [Oper.uponIn_value, dfs_put]; exact hk _ _ h
    | skip => show next' ((dfs ds a).put _ _) _; rw [dfs_put]; exact hk _ _ h
    | defer d =>
      show next' (({ dfs ds a with defers := d :: (dfs ds a).defers } : Act).put _ _) _
      have : ({ dfs ds a with defers := d :: (dfs ds a).defers } : Act) = dfs ds { a with defers := d :: a.defers } := rfl
      rw [this, dfs_put]; exact hk _ _ h
    | enter f args =>
      rw [Oper.uponIn_enter]
      refine ⟨fun hd => (by rw [fzDepth] at hd; cases hd), calls_in (Calls.mono h ?_)⟩
      intro e w' he
      cases e with
      | returned v => show next' ((dfs ds a).put o.dst v) w'; rw [dfs_put]; exact hk _ _ he
      | panicked c => cases he.1
      | outgrown => obtain ⟨_, _, q, _⟩ := he; cases q
    | row r args =>
      refine ⟨fun hd => (by rw [fzDepth] at hd; cases hd), rows_in (Rows.mono h ?_)⟩
      intro v w' he
      rw [dfs_put]; exact hk _ _ he
    | _ => exact h.elim
  | halt x w1 =>
    cases x with
    | panic v => cases h.1
    | _ => exact h.elim
theorem wpOps_in {z : Option Nat} {m : Nat} {P : Program} {ops : Array Oper} {ds : List Deferred} {K : Act → World → Prop} {Q' : Exit → Act → World → Prop} (hnd : ops.toList.all noDef = true) (hq : ∀ a w, K a w → Q' .normal (dfs ds a) w) :
    ∀ (l : List Nat) (a : Act) (w : World), wpOps P ops (onlyN K) l a w → wpOpsIn (Fz z) m P ops Q' l (dfs ds a) w := by
  intro l
  induction l with
  | nil => intro a w h; exact hq _ _ h.2
  | cons i rest ih =>
    intro a w h
    unfold wpOps at h
    unfold wpOpsIn
    cases hi : ops[i]? with
    | none => rw [hi] at h; exact ih _ _ h
    | some o =>
      rw [hi] at h
      simp only at h ⊢
      have ho : noDef o = true := List.all_eq_true.1 hnd o (by rw [← Array.getElem?_toList] at hi; exact List.mem_of_getElem? hi)
      have ht : (dfs ds a).tmps = a.tmps := rfl
      rw [ht]
      split
      · rename_i hw
        rw [if_pos hw] at h
        rcases h with h | ⟨_, _, _, q, _⟩
        · exact wp_in ho h (fun a w h => ih _ _ h)
        · cases q
      · rename_i hw
        rw [if_neg hw] at h
        refine ⟨fun f _ => fzAll z f, ?_⟩
        rw [dfs_put]; exact ih _ _ h
section
variable {z : Option Nat} {P : Program} {n : Nat} {ds : List Deferred} {Q : QD} {r : Regs} {w : World} {ops : Array Oper}
theorem WG.ofAny {id : Nat} (hm : P.follows .mixedOrders = true) (hnd : ops.toList.all noDef = true)
    (h : ∀ a, RA n a r → wpAny P .any ops (onlyN fun a' w' => ∃ r', RA n a' r' ∧ Q ds .normal r' w') ops.size (Array.replicate ops.size false) a { w with drawn := w.drawn + 1 }) : WG z P n ds (.region id ops true) Q r w := by
  intro m a ha
  have ea : a = dfs ds (clean a) := by
    unfold dfs clean
    simp only [List.nil_append]
    rw [← ha.dfr]
  refine wpIn_region_draw fun t => ?_
  simp only [Region.schedule, hm, Bool.true_or, if_true]
  have h1 := wpAny_sound ops.size t _ (clean a) _ (h (clean a) ha.ra)
  have := wpOps_in (z := z) (m := m) (ds := ds) (Q' := fun e a' w' => ∃ ds' r', RD n ds' a' r' ∧ Q ds' e r' w') hnd (fun a' w' ⟨r', q1, q2⟩ => ⟨ds, r', ⟨q1.size, q1.get, by show a'.defers ++ ds = ds; rw [q1.dfr]; rfl⟩, q2⟩) _ _ _ h1
  rw [← ea] at this
  exact this
theorem WG.regionW {id : Nat} {R : Kn} {L : List HP} (U : Nat → Bool) (m : Nat) (hsz : ops.toList.length = m) (hnd : ops.toList.all noDef = true) (hm : P.follows .mixedOrders = true) (s : St w R L)
    (h : ∀ w, St w R L → WA P n ops (Q ds) (fun w => St w R L) U m (List.replicate m false) r w) : WG z P n ds (.region id ops true) Q r w := by
  have hsz' : ops.size = m := hsz
  subst hsz'
  refine WG.ofAny hm hnd (fun a ha => wpAny_of_U (C := fun w => St w R L) (U := U) _ _ _ _ ?_)
  have := h _ (s.drawn (w.drawn + 1)) a ha
  rwa [List.toArray_replicate] at this
theorem WG.regionWC {id : Nat} {R : Kn} {L A : List HP} (U : Nat → Bool) (m : Nat) (hsz : ops.toList.length = m) (hnd : ops.toList.all noDef = true) (hm : P.follows .mixedOrders = true) (s : St w R L) (hA : ∀ w, St w R L → St w R A)
    (h : ∀ w, St w R L → WA P n ops (Q ds) (fun w => St w R A) U m (List.replicate m false) r w) : WG z P n ds (.region id ops true) Q r w := by
  have hsz' : ops.size = m := hsz
  subst hsz'
  refine WG.ofAny hm hnd (fun a ha => wpAny_of_U (C := fun w => St w R A) (U := U) _ _ _ _ ?_)
  have := h _ (s.drawn (w.drawn + 1)) a ha
  rwa [List.toArray_replicate] at this
theorem WG.regionQ {id : Nat} {R : Kn} {L : List HP} (hm : P.follows .mixedOrders = true) (s : St w R L)
    (hB : Region.lexB .any ops = true) (hd' : ops.toList.all (fun o => dstOK n o.dst) = true) (hnd : ops.toList.all noDef = true) (h : WQ P ops (fun w => St w R L) (fun r' => ∀ w', St w' R L → Q ds .normal r' w') ops.toList r) : WG z P n ds (.region id ops true) Q r w := by
  have hd : ops.all (fun o => dstOK n o.dst) = true := by rwa [← Array.all_toList]
  refine WG.ofAny hm hnd (fun a ha => ?_)
  have h1 := WQ.sound hd ops.toList (fun o h => by simpa using h) r a ha h
  have mono : ∀ (os : List Oper) (a : Act) (A B : Act → Prop), (∀ a, A a → B a) → wpQuiet P ops (fun w => St w R L) A os a → wpQuiet P ops (fun w => St w R L) B os a := by
    intro os
    induction os with
    | nil => intro a A B hab h; exact hab _ h
    | cons o os ih =>
      intro a A B hab h
      unfold wpQuiet at h ⊢
      split
      · rename_i hw
        rw [if_pos hw] at h
        obtain ⟨v, h1, h2⟩ := h
        exact ⟨v, h1, ih _ A B hab h2⟩
      · rename_i hw
        rw [if_neg hw] at h
        exact ih _ A B hab h
  have h2 := mono _ _ _ (fun a' => ∀ w', St w' R L → ∃ r', RA n a' r' ∧ Q ds .normal r' w') (fun a' ⟨r', h1, h2⟩ w' hw' => ⟨r', h1, h2 w' hw'⟩) h1
  simp only [Region.lexB, Bool.and_eq_true] at hB
  refine wpAny_of_quiet (C := fun w => St w R L) (Q := fun a' => ∀ w', St w' R L → ∃ r', RA n a' r' ∧ Q ds .normal r' w') (fun _ w' hw' h => ⟨rfl, h w' hw'⟩) _ _ _ _ (s.drawn _) ?_
  have := wpAnyQ_lex (C := fun w => St w R L) (md := .any) hB.1 ops.toList 0 (Array.replicate ops.size false) a (by simp) (by simpa using hB.2) h2
  simpa using this
end
end Go.Proofs.Ytiffedgmageiaaa.B

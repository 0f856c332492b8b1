/- Iterators that read what is owned when they begin, and keep pieces of their own while their rounds run. -/
import Derived.Test.YtiffedgmageiaaaRng
namespace Go.Proofs.Ytiffedgmageiaaa.B
set_option linter.unusedVariables false
open Go.RowKit
set_option linter.unusedSimpArgs false

theorem St.under {w : World} {R : Kn} {A L T : List HP} (s : St w R (A ++ (L ++ T))) : St w R (L ++ (A ++ T)) :=
  s.perm (by rw [← List.append_assoc, ← List.append_assoc]; exact List.Perm.append_right _ List.perm_append_comm)
/-- An iterator: it begins with the pieces X (that it leaves as they are), and yields xs in order; each round may change the others. -/
def IterX {α : Type} (P : Program) (gf : Nat) (lb : Array Value) (enc : α → Array Value) (xs : List α) (R0 : Kn) (X : List HP) : Prop :=
  ∀ (l : Nat) (Inv : List α → Kn → List HP → Prop) (InvX : Kn → List HP → Prop) (T Tx M : List HP) (R : Kn) (L : List HP) (W : World),
    R0.le R → (L ++ T).Perm (X ++ M) →
    (∀ A pre x suf Rk Lk W, pre ++ x :: suf = xs → R.le Rk → Inv pre Rk Lk → St W Rk (Lk ++ (A ++ T)) →
      Yld P l (enc x) W (fun b W' => ∃ Rk' Lk', Rk.le Rk' ∧ ((b = true ∧ Inv (pre ++ [x]) Rk' Lk' ∧ St W' Rk' (Lk' ++ (A ++ T))) ∨ (b = false ∧ InvX Rk' Lk' ∧ St W' Rk' (Lk' ++ (A ++ Tx)))))) →
    Inv [] R L → St W R (L ++ T) →
    Fn P gf (#[.func (.yield l) #[] #[]] ++ lb) W (fun _ W' => ∃ Rk Lk, R.le Rk ∧ ((Inv xs Rk Lk ∧ St W' Rk (Lk ++ T)) ∨ (InvX Rk Lk ∧ St W' Rk (Lk ++ Tx))))

theorem WG.rangeFuncX {α : Type} {P : Program} {n : Nat} {Q : QD} {r : Regs} {w : World} {g : Operand} {ps : Array Tmp} {assign body : Code} {gf : Nat} {lb : Array Value} {enc : α → Array Value} {xs : List α} {R R0 : Kn} {Lc T X M : List HP}
    (Inv : List α → Kn → List HP → Prop) (InvX : Kn → List HP → Prop) (f : Regs → α → Nat → Regs) (Cx : α → Nat → List HP)
    (s : St w R (Lc ++ T)) (hg : B.ev r g = .func (.func gf) #[] lb) (eg : ∀ args w, (callFunc gf args).run P w = .ok (.enter gf args) w) (hps : ∀ x, (enc x).size = ps.size) (hpn' : ps.toList.all (fun p => Nat.blt p n) = true)
    (it : IterX P gf lb enc xs R0 X) (hR0 : R0.le R) (hX : (Lc ++ T).Perm (X ++ M)) (h0 : Inv [] R Lc)
    (hassign : ∀ pre x suf Rk Lk T' W, pre ++ x :: suf = xs → R.le Rk → Inv pre Rk Lk → St W Rk (Lk ++ T') → ∀ l (K : Regs → World → Prop), (∀ b W', St W' Rk (Cx x b ++ (Lk ++ T')) → K (f r x b) W') → WG (some l) P n [] assign (thenD (fun ds' r' w' => ds' = [] ∧ K r' w') (fun _ _ _ _ => False)) (B.setp ps (enc x) r) W)
    (hbody : ∀ l T' pre x suf Rk Lk b W, pre ++ x :: suf = xs → R.le Rk → Inv pre Rk Lk → St W Rk (Cx x b ++ (Lk ++ T')) → WG (some l) P n [] body (roundD Rk Inv InvX (pre ++ [x]) T') (f r x b) W)
    (hdone : ∀ D Rk Lk W, R.le Rk → Inv xs Rk Lk → St W Rk (Lk ++ (defC D :: T)) → Q [mark D] .normal r W)
    (hstop : ∀ D Rk Lk W, R.le Rk → InvX Rk Lk → St W Rk (Lk ++ (defC D :: T)) → Q [mark D] .ret r W) :
    WG none P n [] (.rangeFunc g ps assign body) Q r w := by
  have hpn : ps.all (fun p => Nat.blt p n) = true := by rwa [← Array.all_toList]
  intro m a ha
  refine wpIn_rangeFunc ?_
  intro fn hfn
  obtain ⟨rec, hrec⟩ : ∃ rec : LoopState → Option Code → Loop, rec = fun st pe => { state := st, pending := pe, fn, tmps := a.tmps, params := ps, assign, body, defers := w.heap.size } := ⟨_, rfl⟩
  obtain ⟨W1, hW1⟩ : ∃ W1, (w.alloc (.deferred (some []))).alloc (.loop (rec .ready none)) = W1 := ⟨_, rfl⟩
  have s1 : St W1 R (recC (w.heap.size + 1) (rec .ready none) :: defC w.heap.size :: (Lc ++ T)) := by
    have := (s.newObj (.deferred (some []))).newObj (.loop (rec .ready none))
    rw [World.size_alloc, hW1] at this
    exact this
  have s2 : St W1 R (Lc ++ (recC (w.heap.size + 1) (rec .ready none) :: defC w.heap.size :: T)) := (s1.perm ((List.Perm.cons _ List.perm_middle.symm).trans List.perm_middle.symm))
  have hX2 : (Lc ++ (recC (w.heap.size + 1) (rec .ready none) :: defC w.heap.size :: T)).Perm (X ++ (recC (w.heap.size + 1) (rec .ready none) :: defC w.heap.size :: M)) := by
    refine (List.perm_middle.trans (List.Perm.cons _ List.perm_middle)).trans ?_
    refine List.Perm.trans ?_ (List.perm_middle.trans (List.Perm.cons _ List.perm_middle)).symm
    exact (hX.cons _).cons _
  refine ⟨w.heap.size + 1, [mark w.heap.size], W1, { target := .fn (.func gf) lb, args := #[.func (.yield (w.heap.size + 1)) #[] #[]] }, W1, gf,
    #[.func (.yield (w.heap.size + 1)) #[] #[]] ++ lb, W1, ?_, ?_, fun f' _ => fzAll none f', ?_, fun hd => (by rw [fzDepth] at hd; cases hd), ?_⟩
  · rw [← hW1, hrec]; exact run_enterLoop_outer _ _ _ _ _
  · have hg' : a.eval g = .func (.func gf) #[] lb := by rw [ha.ev]; exact hg
    simp only [resolve, hg']
    simp [go_sem]
  · simp [invoke, go_sem, eg]
  · have hfin := it (w.heap.size + 1) (fun pre Rk Lk => R.le Rk ∧ Inv pre Rk Lk) (fun Rk Lk => R.le Rk ∧ InvX Rk Lk)
      (recC (w.heap.size + 1) (rec .ready none) :: defC w.heap.size :: T) (recC (w.heap.size + 1) (rec .done (some .ret)) :: defC w.heap.size :: T) _ R Lc W1 hR0 hX2 ?_ ⟨Kn.le.refl _, h0⟩ s2
    · refine callsIn_wide.2 (Calls.mono hfin ?_)
      rintro e W2 ⟨v, rfl, Rk, Lk, h1, (⟨⟨_, h2⟩, h3⟩ | ⟨⟨_, h2⟩, h3⟩)⟩
      · have hl : W2.heap[w.heap.size + 1]? = some (.loop (rec .ready none)) := h3.front.objAt
        refine ⟨none, W2.putObj (w.heap.size + 1) (.loop { rec .ready none with state := .exhausted }), by have := run_endLoop (P := P) hl (by rw [hrec]; simp); rw [hrec] at this ⊢; exact this, ?_⟩
        refine ⟨[mark w.heap.size], r, ⟨ha.size, ha.get, by rw [ha.dfr]; rfl⟩, hdone _ _ _ _ h1 h2 ?_⟩
        exact (St.putObj h3.front).drop
      · have hl : W2.heap[w.heap.size + 1]? = some (.loop (rec .done (some .ret))) := h3.front.objAt
        refine ⟨some .ret, W2.putObj (w.heap.size + 1) (.loop { rec .done (some .ret) with state := .exhausted }), by have := run_endLoop (P := P) hl (by rw [hrec]; simp); rw [hrec] at this ⊢; exact this, ?_⟩
        refine wpIn_ret ⟨[mark w.heap.size], r, ⟨ha.size, ha.get, by rw [ha.dfr]; rfl⟩, hstop _ _ _ _ h1 h2 ?_⟩
        exact (St.putObj h3.front).drop
    · rintro A pre x suf Rk Lk W hx h1' ⟨h1, h2⟩ h3
      have h3' : St W Rk ((Lk ++ A) ++ (recC (w.heap.size + 1) (rec .ready none) :: defC w.heap.size :: T)) := by rw [List.append_assoc]; exact h3
      have hl : W.heap[w.heap.size + 1]? = some (.loop (rec .ready none)) := h3'.front.objAt
      have hy := run_yield (P := P) (args := enc x) hl (by rw [hrec]; exact hps x)
      rw [hrec] at hy
      refine ⟨fn, _, assign, body, hy, roundIn_of_wpIn trivial ?_⟩
      have hA := hassign pre x suf Rk Lk _ W hx h1 h2 h3 (w.heap.size + 1) (fun r' w' => ∃ b, r' = f r x b ∧ St w' Rk (Cx x b ++ (Lk ++ (A ++ (recC (w.heap.size + 1) (rec .ready none) :: defC w.heap.size :: T))))) (fun b W' hW' => ⟨b, rfl, hW'⟩)
      refine wpIn_mono (hA _ _ (RD.setp ps (enc x) hpn ha.size ha.get)) ?_
      rintro e a₁ w₁ ⟨ds', r', g1, g2⟩
      cases e with
      | normal =>
        obtain ⟨rfl, bx, rfl, h4⟩ := g2
        have h4' : St w₁ Rk ((Cx x bx ++ (Lk ++ A)) ++ (recC (w.heap.size + 1) (rec .ready none) :: defC w.heap.size :: T)) := by rw [List.append_assoc, List.append_assoc]; exact h4
        have hl1 : w₁.heap[w.heap.size + 1]? = some (.loop (rec .ready none)) := h4'.front.objAt
        refine ⟨_, run_beginRound hl1 (by rw [hrec]), ?_⟩
        have s3 : St (w₁.putObj (w.heap.size + 1) (.loop { rec .ready none with state := .busy })) Rk (Cx x bx ++ (Lk ++ (A ++ (recC (w.heap.size + 1) { rec .ready none with state := .busy } :: defC w.heap.size :: T)))) := by
          rw [← List.append_assoc Lk, ← List.append_assoc]; exact St.behind (St.putObj h4'.front)
        refine wpIn_mono (hbody (w.heap.size + 1) _ pre x suf Rk Lk bx _ hx h1 h2 s3 _ _ g1) ?_
        rintro e a₂ w₂ ⟨ds2, r2, k1, k2⟩
        cases e with
        | normal =>
          obtain ⟨rfl, Rk', Lk', q1, q2, q3⟩ := k2
          have q3' : St w₂ Rk' ((Lk' ++ A) ++ (recC (w.heap.size + 1) { rec .ready none with state := .busy } :: defC w.heap.size :: T)) := by rw [List.append_assoc]; exact q3
          have hl2 : w₂.heap[w.heap.size + 1]? = some (.loop { rec .ready none with state := .busy }) := q3'.front.objAt
          refine ⟨_, _, run_endRound none hl2, true, rfl, Rk', Lk', q1, .inl ⟨rfl, ⟨h1.trans q1, q2⟩, ?_⟩⟩
          have := St.behind (St.putObj (o' := .loop { ({ rec .ready none with state := .busy } : Loop) with state := if (none : Option Code).isNone then .ready else .done, pending := none }) q3'.front)
          rw [hrec, List.append_assoc] at this
          rw [hrec]
          exact this
        | ret =>
          obtain ⟨rfl, Rk', Lk', q1, q2, q3⟩ := k2
          have q3' : St w₂ Rk' ((Lk' ++ A) ++ (recC (w.heap.size + 1) { rec .ready none with state := .busy } :: defC w.heap.size :: T)) := by rw [List.append_assoc]; exact q3
          have hl2 : w₂.heap[w.heap.size + 1]? = some (.loop { rec .ready none with state := .busy }) := q3'.front.objAt
          refine ⟨_, _, run_endRound (some .ret) hl2, false, rfl, Rk', Lk', q1, .inr ⟨rfl, ⟨h1.trans q1, q2⟩, ?_⟩⟩
          have := St.behind (St.putObj (o' := .loop { ({ rec .ready none with state := .busy } : Loop) with state := if (some Code.ret : Option Code).isNone then .ready else .done, pending := some .ret }) q3'.front)
          rw [hrec, List.append_assoc] at this
          rw [hrec]
          exact this
        | exit id => exact k2.elim
        | goto t => exact k2.elim
        | panic c => exact k2.elim
        | outgrown => exact k2.elim
      | ret => exact g2.elim
      | exit id => exact g2.elim
      | goto t => exact g2.elim
      | panic c => exact g2.elim
      | outgrown => exact g2.elim
theorem retC2 {P : Program} {fn : Func} {Post : Value → World → Prop} {r : Regs} {w : World} {a t u q : Nat} (hr : fn.results.toList = [.cell a t, .tmp u, .tmp q]) {ad : Addr} {v v2 v3 : Value} (ha : r a = .pointer (some ad)) (hl : (loadVar t ad).run P w = .ok v w) (hv : r u = v2) (hv3 : r q = v3) (hp : Post (.tuple #[v, v2, v3]) w) : retQ P fn Post .ret r w := ⟨[v, v2, v3], by rw [hr]; exact ⟨⟨ad, ha, hl⟩, hv.symm, hv3.symm, trivial⟩, hp⟩
end Go.Proofs.Ytiffedgmageiaaa.B

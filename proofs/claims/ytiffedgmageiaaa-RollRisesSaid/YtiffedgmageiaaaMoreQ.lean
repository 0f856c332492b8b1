/- Slices of rows that never change, in a walk that serves every order. Made by mkq.py out of More.lean. -/
import Derived.Test.YtiffedgmageiaaaMore
namespace Go.Proofs.Ytiffedgmageiaaa.B
set_option linter.unusedVariables false
set_option linter.unusedSimpArgs false
section
variable {P : Program} {ops : Array Oper} {C : World → Prop} {R : Kn} {K : Regs → Prop} {r : Regs} {os : List Oper}
  {d : Nat} {ty : TypeId} {pos : String} {aft : Array Edge} {g : Option (Nat × Bool)}
theorem Q.sliceRo {α : Type} {enc : α → List Value} {t e : TypeId} {z : Value} {n b : Nat} {x : Operand} {lo hi : Option Operand} {l h : Int} {v : Value} {xs : List α} (hro : Ro R enc n v xs) (ht : P.underlying t = some (.slice e)) (hI : TI P e z n b)
    (hx : ev r x = v) (hlo : lo.map (ev r) = none ∧ l = 0 ∨ ∃ k, lo.map (ev r) = some (.int k l)) (hhi : hi.map (ev r) = none ∧ h = (xs.length : Int) ∨ ∃ k, hi.map (ev r) = some (.int k h)) (hb : 0 ≤ l ∧ l ≤ h ∧ h ≤ xs.length)
    (hw : wantR ⟨some d, .slice t x lo hi none, ty, pos, aft, g⟩ ops r = true)
    (h : ∀ a c, Ro R enc n (.slice a (h.toNat - l.toNat) c) ((xs.take h.toNat).drop l.toNat) → WQ P ops C K os (upd r d (.slice a (h.toNat - l.toNat) c))) : WQ P ops C K (⟨some d, .slice t x lo hi none, ty, pos, aft, g⟩ :: os) r := by
  subst hx
  obtain ⟨a, c, hv, hc⟩ := hro.len
  rw [hv] at hro
  have hrun := fun w => run_sliceRo (P := P) (w := w) (a := a) (len := xs.length) (cap := c) ht hI hlo hhi hb.1 hb.2.1 (by omega)
  have hpart := hro.part (l := l.toNat) (h := ‹Int›.toNat) (by omega) (by omega)
  refine Q.val hw (fun w hC => ?_) (h _ _ hpart)
  simp only [execOp, hv, Option.map_none, hrun w, Sem.run_bind, Result.andThen_ok, Sem.run_pure]

theorem Q.sliceHi {α : Type} {enc : α → List Value} {t e : TypeId} {z : Value} {n b : Nat} {x y : Operand} {k : IntKind} {i : Int} {v : Value} {xs : List α} (h : Nat) (hro : Ro R enc n v xs) (ht : P.underlying t = some (.slice e)) (hI : TI P e z n b)
    (hx : ev r x = v) (hy : ev r y = .int k i) (hi : i = (h : Int)) (hb : h ≤ xs.length)
    (hw : wantR ⟨some d, .slice t x none (some y) none, ty, pos, aft, g⟩ ops r = true)
    (hK : ∀ a c, Ro R enc n (.slice a h c) (xs.take h) → WQ P ops C K os (upd r d (.slice a h c))) : WQ P ops C K (⟨some d, .slice t x none (some y) none, ty, pos, aft, g⟩ :: os) r := by
  subst hi
  refine Q.sliceRo (l := 0) (h := (h : Int)) hro ht hI hx (.inl ⟨rfl, rfl⟩) (.inr ⟨k, by rw [Option.map_some, hy]⟩) ⟨by omega, by omega, by omega⟩ hw fun a c hr => ?_
  simp only [Int.toNat_natCast, Int.toNat_zero, Nat.sub_zero, List.drop_zero] at hr ⊢
  exact hK a c hr
theorem Q.sliceLo {α : Type} {enc : α → List Value} {t e : TypeId} {z : Value} {n b : Nat} {x y : Operand} {k : IntKind} {i : Int} {v : Value} {xs : List α} (l : Nat) (hro : Ro R enc n v xs) (ht : P.underlying t = some (.slice e)) (hI : TI P e z n b)
    (hx : ev r x = v) (hy : ev r y = .int k i) (hi : i = (l : Int)) (hb : l ≤ xs.length)
    (hw : wantR ⟨some d, .slice t x (some y) none none, ty, pos, aft, g⟩ ops r = true)
    (hK : ∀ a c, Ro R enc n (.slice a (xs.length - l) c) (xs.drop l) → WQ P ops C K os (upd r d (.slice a (xs.length - l) c))) : WQ P ops C K (⟨some d, .slice t x (some y) none none, ty, pos, aft, g⟩ :: os) r := by
  subst hi
  refine Q.sliceRo (l := (l : Int)) (h := (xs.length : Int)) hro ht hI hx (.inr ⟨k, by rw [Option.map_some, hy]⟩) (.inl ⟨rfl, rfl⟩) ⟨by omega, by omega, by omega⟩ hw fun a c hr => ?_
  simp only [Int.toNat_natCast, List.take_length] at hr ⊢
  exact hK a c hr
end
end Go.Proofs.Ytiffedgmageiaaa.B

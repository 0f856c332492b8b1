/- What the library's maps.Keys, slices.Sorted and maps.Clone do, told of owned pieces. -/
import Derived.Test.YtiffedgmageiaaaMapM
import Derived.Test.YtiffedgmageiaaaRng
import Derived.Shelf.SlIterI.Nil
import Derived.Shelf.SlMaps.Clone
namespace Go.Proofs.Ytiffedgmageiaaa.B
set_option linter.unusedVariables false
set_option linter.unusedSimpArgs false
open Go.RowKit Go.ChangeMaps Go.Maps Go.Sort Go.Shelf
open Go.WideElems (Fit rd rg rd_key rd_val rg_of)

theorem intKeys_dm (m : List (Int × Value)) : intKeys (DataW.map (dm m)) = m.map (·.1) := by
  show List.map _ (List.map _ m) = _
  rw [List.map_map]; rfl
theorem St.newRow {w w' : World} {R : Kn} {L : List HP} {e : TypeId} {v : Value} {len : Nat} {cs : List Value} (s : St w R L) (hb : Below w.heap.size w w') (hr : w'.ownsRow w.heap.size e 1 v len cs) : St w' R (Os e 1 v len cs :: L) := by
  obtain ⟨h1, h2⟩ := hr
  rcases h2 with ⟨rfl, rfl⟩ | ⟨g, cap, cur, rfl, hg, hgb, q1, q2, q3, q4⟩
  · exact s.make hb.os hb.tape hb.output ⟨fun _ => none, ⟨h1, .inl ⟨rfl, rfl⟩⟩, (fun _ _ e => by cases e), (fun _ _ e => by cases e)⟩ (fun b hb' => hb.block b hb')
  · refine s.make hb.os hb.tape hb.output ⟨fun x => if x = g then some (.cells cur e (0, 0)) else none, ⟨h1, .inr ⟨g, cap, cur, rfl, by simp, q1, q2, q3, q4⟩⟩, fun x o h => ?_, fun x o h => ?_⟩ (fun b hb' => hb.block b hb')
    · by_cases hx : x = g
      · subst hx; simp at h; subst h; exact hgb
      · simp [hx] at h
    · by_cases hx : x = g
      · subst hx; exact hg
      · simp [hx] at h
theorem sort_same : ∀ (l : List Int), l.Pairwise (· < ·) → l.mergeSort (fun x y => decide (x ≤ y)) = l := by
  intro l h
  exact List.mergeSort_of_pairwise (h.imp (fun hab => by simpa using Int.le_of_lt hab))
section
variable {P : Program} {w : World} {R : Kn} {L : List HP}
theorem fn_keys {fK fI : Nat} {tM : TypeId} (cK : ∀ mb W, CallsIn Fence.wide 5 P fK #[.map mb] W fun e w' => e = .returned (.func (.func fI) #[] #[.pointer (some ⟨W.heap.size, 0, none⟩)]) ∧ w' = W.alloc (.cells #[.map mb] tM)) {mb : Option Nat} (hS : St w R L) :
    Fn P fK #[.map mb] w (fun v w' => ∃ bp, v = .func (.func fI) #[] #[.pointer (some ⟨bp, 0, none⟩)] ∧ St w' R (blk bp (.cells #[.map mb] tM (0, 0)) :: L)) := by
  refine callsIn_wide.1 ((cK mb w).mono ?_)
  rintro e w' ⟨rfl, rfl⟩
  exact ⟨_, rfl, w.heap.size, rfl, hS.newObj _⟩
def SortedC (P : Program) (fS fI : Nat) (tE : TypeId) (k : TypeId) : Prop :=
  ∀ (bp b nn : Nat) (D0 : DataW Value) (w : World), bp < w.heap.size → w.cell? ⟨bp, 0, none⟩ = some (.map (some b)) → w.ownsMap P k hR b nn D0 → Maps.size D0 ≤ maxLen → Maps.size D0 * 8 ≤ 140737488355328 →
    CallsIn Fence.wide 5 P fS #[.func (.func fI) #[] #[.pointer (some ⟨bp, 0, none⟩)]] w fun e w' => ∃ (v : Value) (ss : List Int), e = .returned v ∧ ss.Perm (intKeys D0) ∧
      w'.ownsRow w.heap.size tE 1 v ss.length ((ss.mergeSort (fun x y => decide (x ≤ y))).map encZ) ∧ (v = .slice none 0 0 ↔ ss = []) ∧ Below w.heap.size w w'
theorem fn_sorted {fS fI : Nat} {tE tM k : TypeId} {b bp : Nat} {m : List (Int × Value)} (cS : SortedC P fS fI tE k) (hk : P.underlying k = some (.int .i64)) (hS : St w R (blk bp (.cells #[.map (some b)] tM (0, 0)) :: Mp P k b m :: L)) (hm : m.length ≤ 1000000) :
    Fn P fS #[.func (.func fI) #[] #[.pointer (some ⟨bp, 0, none⟩)]] w (fun v w' => St w' R (Ow tE (encI .i64) 1 v (m.map (·.1)) :: blk bp (.cells #[.map (some b)] tM (0, 0)) :: Mp P k b m :: L)) := by
  have hb := hS.blkAt
  have hlt := (Array.getElem?_eq_some_iff.1 hb).1
  obtain ⟨es, clock, hmb, F, hD⟩ := hS.drop.mapAt
  have hrise := mp_rises hk F hD
  have hown : w.ownsMap P k hR b m.length (.map (dm m)) := ⟨es, clock, hmb, F, Nat.le_of_eq (mp_size hD), by rw [hD]⟩
  have hsz : Maps.size (DataW.map (dm m)) = m.length := by rw [Maps.size_eq, dm_len]
  refine callsIn_wide.1 ((cS bp b _ _ w hlt (cell_of_heap hb rfl) hown (by rw [hsz]; exact Nat.le_trans hm (by decide)) (by rw [hsz]; omega)).mono ?_)
  rintro e w' ⟨v, ss, rfl, hp, hrow, _, hbel⟩
  refine ⟨v, rfl, ?_⟩
  rw [intKeys_dm] at hp
  have hs : ss.mergeSort (fun x y => decide (x ≤ y)) = m.map (·.1) := by
    rw [mergeSort_of_perm_i hp]
    exact sort_same _ (List.pairwise_map.2 hrise)
  rw [hs, hp.length_eq] at hrow
  have := hS.newRow hbel hrow
  have e1 : (m.map (·.1)).map encZ = (m.map (·.1)).flatMap (encI .i64) := by
    induction (m.map (·.1)) with
    | nil => rfl
    | cons x xs ih => rw [List.map_cons, List.flatMap_cons, ih]; rfl
  rw [e1] at this
  exact this
theorem fn_clone {fC k : Nat} {b : Nat} {m : List (Int × Value)} (cC : ∀ (b : Nat) (es : Array MapEntry) (clock : Nat) (w : World), w.heap[b]? = some (.map es clock) → Calls P fC #[.map (some b)] w fun e w' => e = .returned (.map (some w.heap.size)) ∧ w' = w.alloc (.map es clock)) (hS : St w R (Mp P k b m :: L)) :
    Fn P fC #[.map (some b)] w (fun v w' => ∃ b', v = .map (some b') ∧ St w' R (Mp P k b' m :: Mp P k b m :: L)) := by
  obtain ⟨es, clock, hmb, F, hD⟩ := hS.mapAt
  refine (cC b es clock w hmb).mono ?_
  rintro e w' ⟨rfl, rfl⟩
  exact ⟨_, rfl, _, rfl, hS.mapCopy F hD⟩
end
end Go.Proofs.Ytiffedgmageiaaa.B

/- Every Text and Parse answers what the document says; a text that is parsed is the number's own: for every input. -/
import Derived.Test.YtnfideifgegijaaRows
import Derived.Test.YtnfideifgegijaaRead
import Derived.Test.YtnfideifgegijaaWalkT
import Derived.WalkKit
import Derived.ProofKit
import Derived.OpenShut
import Derived.ShutString
import Derived.ChangeOld
import Derived.Below
import Derived.SizedLaws
import Derived.KernelRfl
namespace Go.Proofs.Ytnfideifgegijaa.WideTextsRow
open Go.ChangeShapes Go.WideShapes Go.ChangeAt Go.RowKit
open Go.ChangeMaps (open_string shut_string)
open Go.Proofs.Ytnfideifgegijaa.B 
set_option linter.unusedVariables false
theorem own : ownKnob Try.prog.godebug = none := by kernel_rfl
theorem laidOut : laidOutB Try.prog = true := by kernel_rfl

set_option maxRecDepth 100000 in
theorem lifted (os : Os) (started : os.Started) (H : Type) (enc : TypeId × Value → H) :
    ReturnsInHanded {} Try.checked os 5 .any (Rows.wideTextsSpec.pre6 enc Try.prog Try.f5 Rows.wideTextsRow.domain false) (Rows.wideTextsSpec.post enc Try.prog Try.f5 false true false false) := by
  refine returnsInHanded_of_change_sized (C := Try.checked) own started (by kernel_rfl) Try.func5
    (ChangeSpec.witness6 (enc := enc) (C := Try.checked) false ⟨#[], #[.agg #[.int .i64 0, .int .u64 0], .string ByteArray.empty], []⟩ 8 (by kernel_rfl) (by kernel_rfl) (by kernel_rfl) (by kernel_rfl)) ?_
  intro W base args ds gs before hval0 hW hcnd hsz0 _
  have hsz : (DataW.weightsEach Try.prog (Try.f5.params.toList ++ Rows.wideTextsSpec.plain.varTypes Try.prog) (ds ++ gs)).all (· ≤ reachBytes) = true := hsz0
  have hval : ∀ (j : Nat) t v, Try.f5.params[j]? = some t → args[j]? = some v → Value.okWide Try.prog W .any base t v := hval0
  have hW' := hW
  obtain ⟨p, q, hA0, hV, rfl, hfz, hnd⟩ := hW
  have hA : DataW.TrodAll enc Try.prog W 0 (fun _ => true) true Try.f5.params.toList args.toList ds p := hA0
  rw [Try.params5] at hA hval hsz
  obtain ⟨v0, vs0, d0, ds0, p0, q0, hargs, rfl, rfl, h0, r0⟩ := trodAll_cons hA
  obtain ⟨v1, vs1, d1, ds1, p1, q1, rfl, rfl, rfl, h1, r1⟩ := trodAll_cons r0
  obtain ⟨rfl, rfl, rfl⟩ := trodAll_nil r1
  obtain rfl : args = #[v0, v1] := by cases args; simp_all
  obtain ⟨rfl, rfl⟩ := trodVars_none hV
  have k0 := h0
  have lt0 : ∀ x ∈ p0, x.block < W.heap.size := by obtain ⟨m, hm⟩ := k0; exact DataW.trod_lt m _ _ _ hm
  have sz0 : SZ Try.prog 24 d0 := SZ.of hsz (j := 0) rfl rfl
  obtain ⟨cs0, rfl, _⟩ := okWide_struct Try.underlying24 (hval 0 24 v0 rfl rfl)
  obtain ⟨a0, b0, hc0, w0, x0⟩ := (TR.of h0).pair Try.underlying24 Try.underlying2 Try.underlying22 rfl rfl (by kernel_rfl) (by kernel_rfl) (by kernel_rfl) sz0
  obtain rfl : cs0 = #[.int .i64 a0, .int .u64 b0] := by apply Array.ext'; exact hc0
  have k1 := h1
  have lt1 : ∀ x ∈ p1, x.block < W.heap.size := by obtain ⟨m, hm⟩ := k1; exact DataW.trod_lt m _ _ _ hm
  have sz1 : SZ Try.prog 9 d1 := SZ.of hsz (j := 1) rfl rfl
  obtain ⟨s1, hs1, w1⟩ := (TR.of h1).string Try.underlying9 sz1
  obtain ⟨_, rfl, _⟩ := open_string Try.underlying9 (hval 1 9 v1 rfl rfl) h1
  obtain rfl := Value.string.inj (List.cons.inj hs1).1
  have hR : reachBytes = 140737488351232 := by decide
  clear hA0 hval0 hsz0 hsz
  refine Calls.mono (law_WideTexts (St.start W) (fits_wf w0) (by have := bounds_u64 x0; omega) (by omega)) ?_
  rintro e W' ⟨_, rfl, rfl, s'⟩
  have bel := s'.finish (Kn.le.refl _)
  exact ⟨_, rfl, _, _, _, [], _, [], hW', trodAll_mk1 (shut_bool Try.underlying4 _), (trodAll_cons_mk (Below.trod laidOut (by kernel_rfl) (of_decide_eq_true (by kernel_rfl)) k0 bel lt0) (trodAll_cons_mk (Below.trod laidOut (by kernel_rfl) (of_decide_eq_true (by kernel_rfl)) k1 bel lt1) trodAll_mk0)), rfl, bel.frame _, fun h => by cases h⟩
theorem over : Rows.wideTextsRow.holds Try.pinned (OpenSpec.ofChange Rows.wideTextsSpec) :=
  OpenClaim.holds_of_wide 5 Try.f5 rfl rfl rfl rfl rfl rfl rfl ⟨rfl, rfl, rfl, rfl, rfl⟩ rfl rfl rfl rfl rfl (by kernel_rfl) Try.func5 (by kernel_rfl)
    (of_decide_eq_true (by kernel_rfl)) (by unfold Func.isWrapper; first | (rw [if_pos (by decide +kernel)]; kernel_rfl) | (rw [if_neg (by decide +kernel)]; exact ⟨rfl, rfl⟩))
    (fun os started H enc _ => lifted os started H enc)
end Go.Proofs.Ytnfideifgegijaa.WideTextsRow
namespace Go.Proofs.Ytnfideifgegijaa
/-- The row. -/
theorem wideTexts_holds : Rows.WideTextsSaid := WideTextsRow.over
#print axioms wideTexts_holds
end Go.Proofs.Ytnfideifgegijaa

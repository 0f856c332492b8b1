import Derived.Test.YtlipmgepneffkaaWalkA
import Derived.Test.YtlipmgepneffkaaWalkN
namespace Go.Proofs.Ytlipmgepneffkaa.B
open Go.Proofs Go.RowKit
set_option linter.unusedVariables false
set_option linter.unusedSimpArgs false
set_option maxRecDepth 100000 in
set_option maxHeartbeats 4000000 in
theorem law_SafeSums {w : World} {R : Kn} {L : List HP} (hS : St w R (L)) {v0 : Value} {xs : List Int} {turn : Int} (h0 : Ro R (encI .i64) 1 v0 xs) (hf : ∀ x ∈ xs, fits x) (hm : xs.length ≤ 140737488351232) :
    Fn Try.prog 3 #[v0, .int .i64 turn] w (fun v w' => v = .bool true ∧ St w' R L) := by
  obtain ⟨a0, c0, rfl, hl0⟩ := h0.len
  refine Fn.intro (n := 74) Try.func3 rfl rfl rfl ?_
  refine WR.seq ?_
  refine WR.region rfl ?_
  refine S.assignC rfl ?_
  refine WS.done ?_
  refine WR.seq ?_
  refine WR.seq ?_
  refine WR.region rfl ?_
  refine S.call ent6 rfl (law_alive hS ) rfl ?_
  rintro _ w13 ⟨rfl, hS13⟩
  clear hS
  refine S.not rfl rfl ?_
  refine WS.done ?_
  refine WR.condF rfl ?_
  refine WR.skip ?_
  refine WR.seq ?_
  refine WR.seq ?_
  refine WR.region rfl ?_
  refine S.moveT rfl ?_
  refine S.lenSl Try.underlying22 rfl rfl ?_
  refine S.gtr rfl rfl rfl ?_
  refine WS.done ?_
  refine WR.condD rfl (fun c17 => ?_) (fun c17 => ?_)
  ·
    skip
    refine WR.seq ?_
    refine WR.region rfl ?_
    refine S.assignC rfl ?_
    refine WS.done ?_
    refine WR.ret (ret1 rfl rfl ?_)
    first | exact ⟨rfl, hS13.weak (hR19.trans hR45)⟩ | exact ⟨rfl, hS13⟩
  ·
    skip
    refine WR.skip ?_
    refine WR.seq ?_
    refine WR.region rfl ?_
    refine S.moveT rfl ?_
    refine S.call ent7 rfl (r_copyLongs hS13 (by exact h0) (by omega)) rfl ?_
    rintro v19 w19 hS19
    clear hS13
    obtain ⟨R19, hR19, hro19, hSf19⟩ := hS19.freeze (fun _ _ => rfl)
    replace h0 := h0.mono hR19
    refine S.assignT rfl ?_
    refine WS.done ?_
    refine WR.seq ?_
    refine WR.region rfl ?_
    refine S.moveT rfl ?_
    refine S.call ent8 rfl (s_sum hSf19 (by exact hro19) (by exact hf) (by omega)) rfl ?_
    rintro _ w22 ⟨rfl, hS22⟩
    clear hSf19
    refine S.moveT rfl ?_
    refine S.extract rfl rfl rfl ?_
    refine S.extract rfl rfl rfl ?_
    refine S.assignT rfl ?_
    refine S.assignT rfl ?_
    refine WS.done ?_
    refine WR.seq ?_
    refine WR.region rfl ?_
    refine S.moveT rfl ?_
    refine S.call ent9 rfl (r_sum hS22 (by exact h0) (by exact hf) (by omega)) rfl ?_
    rintro _ w27 ⟨rfl, hS27⟩
    clear hS22
    refine S.moveT rfl ?_
    refine S.extract rfl rfl rfl ?_
    refine S.extract rfl rfl rfl ?_
    refine S.assignT rfl ?_
    refine S.assignT rfl ?_
    refine WS.done ?_
    refine WR.seq ?_
    refine WR.seq ?_
    refine WR.region rfl ?_
    refine S.moveT rfl ?_
    refine S.lss rfl rfl rfl ?_
    refine S.moveT rfl ?_
    refine S.splitD (d := 32) rfl (fun c32 => ?_) (fun c32 => ?_)
    ·
      skip
      refine S.off rfl ?_
      refine S.off rfl ?_
      refine S.off rfl ?_
      refine S.off rfl ?_
      refine S.pickTC rfl rfl ?_
      refine WS.done ?_
      refine WR.condT rfl ?_
      refine WR.region rfl ?_
      refine S.assignC rfl ?_
      refine WS.done ?_
      refine WR.seq ?_
      first
        | refine Exists.elim (show ∃ k : Nat, turn = (k : Int) ∧ k ≤ xs.length from ⟨turn.toNat, by omega, by omega⟩) ?_
        | refine Exists.elim (show ∃ k : Nat, (0 : Int) = (k : Int) ∧ k ≤ xs.length from ⟨0, rfl, by omega⟩) ?_
      rintro k ⟨hk, hkl⟩
      refine WR.regionW (fun j => false) 9 rfl mixed hS27 ?_
      intro w6001 hS6001; clear hS27; have hC := hS6001
      refine WA.take (fuel := 8) 0 rfl (by kernel_rfl) (by kernel_rfl) (by kernel_rfl) (by kernel_rfl) rfl rfl hC ?_
      refine Q.moveT rfl ?_
      refine WQ.done ?_
      refine WA.take (fuel := 7) 1 rfl (by kernel_rfl) (by kernel_rfl) (by kernel_rfl) (by kernel_rfl) rfl rfl hC ?_
      refine Q.moveT rfl ?_
      refine WQ.done ?_
      refine WA.take (fuel := 6) 2 rfl (by kernel_rfl) (by kernel_rfl) (by kernel_rfl) (by kernel_rfl) rfl rfl hC ?_
      refine Q.sliceLo (k) h0 Try.underlying22 ti2 rfl rfl (by omega) (by omega) rfl ?_
      intro a40 cc40 hro40
      refine WQ.done ?_
      refine WA.take (fuel := 5) 4 rfl (by kernel_rfl) (by kernel_rfl) (by kernel_rfl) (by kernel_rfl) rfl rfl hC ?_
      refine Q.moveT rfl ?_
      refine WQ.done ?_
      refine WA.take (fuel := 4) 5 rfl (by kernel_rfl) (by kernel_rfl) (by kernel_rfl) (by kernel_rfl) rfl rfl hC ?_
      refine Q.moveT rfl ?_
      refine WQ.done ?_
      refine WA.take (fuel := 3) 6 rfl (by kernel_rfl) (by kernel_rfl) (by kernel_rfl) (by kernel_rfl) rfl rfl hC ?_
      refine Q.sliceHi (k) h0 Try.underlying22 ti2 rfl rfl (by omega) (by omega) rfl ?_
      intro a44 cc44 hro44
      refine WQ.done ?_
      refine WA.one (fuel := 2) 3 rfl (by kernel_rfl) rfl ?_
      refine S.call ent7 rfl (r_copyLongs hS6001 (by exact hro40) (by rw [List.length_drop]; omega)) rfl ?_
      rintro v41 w41 hS41
      clear hS6001
      refine WS.done ⟨fun _ => hS41.drop, ?_⟩
      replace hC := hS41.drop
      refine WA.one (fuel := 1) 7 rfl (by kernel_rfl) rfl ?_
      refine S.appendRo (i := 0) hS41 rfl hro44 Try.underlying22 ti2 rfl rfl rfl rfl encI_one (by rw [List.length_drop, List.length_take]; omega) rfl ?_
      intro v45 w45 hS45; clear hS41
      refine WS.done ⟨fun _ => hS45.drop, ?_⟩
      replace hC := hS45.drop
      refine WA.take (fuel := 0) 8 rfl (by kernel_rfl) (by kernel_rfl) (by kernel_rfl) (by kernel_rfl) rfl rfl hC ?_
      refine Q.assignT rfl ?_
      refine WQ.done ?_
      refine WA.done (by kernel_rfl) ?_
      clear hC
      refine WR.seq ?_
      refine WR.region rfl ?_
      refine S.moveT rfl ?_
      obtain ⟨R45, hR45, hro45, hSf45⟩ := hS45.freeze (fun _ _ => rfl)
      replace h0 := h0.mono hR45
      replace hro19 := hro19.mono hR45
      replace hro40 := hro40.mono hR45
      replace hro44 := hro44.mono hR45
      refine S.call ent8 rfl (s_sum hSf45 (by exact hro45) (by exact turn_fits hf k) (by rw [List.length_append, List.length_drop, List.length_take]; omega)) rfl ?_
      rintro _ w48 ⟨rfl, hS48⟩
      clear hSf45
      refine S.as (d := 48) rfl (congrArg told (turn_sum xs k)) ?_
      refine S.moveT rfl ?_
      refine S.extract rfl rfl rfl ?_
      refine S.extract rfl rfl rfl ?_
      refine S.assignT rfl ?_
      refine S.assignT rfl ?_
      refine WS.done ?_
      refine WR.seq ?_
      refine WR.region rfl ?_
      refine S.moveT rfl ?_
      refine S.moveT rfl ?_
      refine S.eql rfl rfl rfl ?_
      refine S.isTD (d := 53) rfl (by rfl) ?_
      refine S.moveT rfl ?_
      refine S.moveT rfl ?_
      refine S.moveT rfl ?_
      refine S.eql rfl rfl rfl ?_
      refine S.isTD (d := 57) rfl (by rfl) ?_
      refine S.pickT rfl rfl ?_
      refine S.moveT rfl ?_
      refine S.moveT rfl ?_
      refine S.moveT rfl ?_
      refine S.eql rfl rfl rfl ?_
      refine S.isTD (d := 62) rfl (by rfl) ?_
      refine S.pickT rfl rfl ?_
      refine S.moveT rfl ?_
      refine S.moveT rfl ?_
      refine S.moveT rfl ?_
      refine S.eql rfl rfl rfl ?_
      refine S.isTD (d := 67) rfl (by rfl) ?_
      refine S.pickT rfl rfl ?_
      refine S.moveT rfl ?_
      refine S.moveT rfl ?_
      refine S.moveT rfl ?_
      refine S.call ent10 rfl (r_sameLongs hS48 (by exact hro19) (by exact h0) (by omega)) rfl ?_
      rintro _ w72 ⟨rfl, hS72⟩
      clear hS48
      refine S.isTD (d := 72) rfl (by rfl) ?_
      refine S.pickT rfl rfl ?_
      refine S.assignT rfl ?_
      refine WS.done ?_
      refine WR.ret (ret1 rfl rfl ?_)
      first | exact ⟨rfl, hS72.weak (hR19.trans hR45)⟩ | exact ⟨rfl, hS72⟩
    ·
      skip
      refine S.moveT rfl ?_
      refine S.moveT rfl ?_
      refine S.lenSl Try.underlying22 rfl rfl ?_
      refine S.gtr rfl rfl rfl ?_
      refine S.pickF rfl rfl ?_
      refine WS.done ?_
      refine WR.condD rfl (fun c37 => ?_) (fun c37 => ?_)
      ·
        skip
        refine WR.region rfl ?_
        refine S.assignC rfl ?_
        refine WS.done ?_
        refine WR.seq ?_
        first
          | refine Exists.elim (show ∃ k : Nat, turn = (k : Int) ∧ k ≤ xs.length from ⟨turn.toNat, by omega, by omega⟩) ?_
          | refine Exists.elim (show ∃ k : Nat, (0 : Int) = (k : Int) ∧ k ≤ xs.length from ⟨0, rfl, by omega⟩) ?_
        rintro k ⟨hk, hkl⟩
        refine WR.regionW (fun j => false) 9 rfl mixed hS27 ?_
        intro w6002 hS6002; clear hS27; have hC := hS6002
        refine WA.take (fuel := 8) 0 rfl (by kernel_rfl) (by kernel_rfl) (by kernel_rfl) (by kernel_rfl) rfl rfl hC ?_
        refine Q.moveT rfl ?_
        refine WQ.done ?_
        refine WA.take (fuel := 7) 1 rfl (by kernel_rfl) (by kernel_rfl) (by kernel_rfl) (by kernel_rfl) rfl rfl hC ?_
        refine Q.moveT rfl ?_
        refine WQ.done ?_
        refine WA.take (fuel := 6) 2 rfl (by kernel_rfl) (by kernel_rfl) (by kernel_rfl) (by kernel_rfl) rfl rfl hC ?_
        refine Q.sliceLo (k) h0 Try.underlying22 ti2 rfl rfl (by omega) (by omega) rfl ?_
        intro a40 cc40 hro40
        refine WQ.done ?_
        refine WA.take (fuel := 5) 4 rfl (by kernel_rfl) (by kernel_rfl) (by kernel_rfl) (by kernel_rfl) rfl rfl hC ?_
        refine Q.moveT rfl ?_
        refine WQ.done ?_
        refine WA.take (fuel := 4) 5 rfl (by kernel_rfl) (by kernel_rfl) (by kernel_rfl) (by kernel_rfl) rfl rfl hC ?_
        refine Q.moveT rfl ?_
        refine WQ.done ?_
        refine WA.take (fuel := 3) 6 rfl (by kernel_rfl) (by kernel_rfl) (by kernel_rfl) (by kernel_rfl) rfl rfl hC ?_
        refine Q.sliceHi (k) h0 Try.underlying22 ti2 rfl rfl (by omega) (by omega) rfl ?_
        intro a44 cc44 hro44
        refine WQ.done ?_
        refine WA.one (fuel := 2) 3 rfl (by kernel_rfl) rfl ?_
        refine S.call ent7 rfl (r_copyLongs hS6002 (by exact hro40) (by rw [List.length_drop]; omega)) rfl ?_
        rintro v41 w41 hS41
        clear hS6002
        refine WS.done ⟨fun _ => hS41.drop, ?_⟩
        replace hC := hS41.drop
        refine WA.one (fuel := 1) 7 rfl (by kernel_rfl) rfl ?_
        refine S.appendRo (i := 0) hS41 rfl hro44 Try.underlying22 ti2 rfl rfl rfl rfl encI_one (by rw [List.length_drop, List.length_take]; omega) rfl ?_
        intro v45 w45 hS45; clear hS41
        refine WS.done ⟨fun _ => hS45.drop, ?_⟩
        replace hC := hS45.drop
        refine WA.take (fuel := 0) 8 rfl (by kernel_rfl) (by kernel_rfl) (by kernel_rfl) (by kernel_rfl) rfl rfl hC ?_
        refine Q.assignT rfl ?_
        refine WQ.done ?_
        refine WA.done (by kernel_rfl) ?_
        clear hC
        refine WR.seq ?_
        refine WR.region rfl ?_
        refine S.moveT rfl ?_
        obtain ⟨R45, hR45, hro45, hSf45⟩ := hS45.freeze (fun _ _ => rfl)
        replace h0 := h0.mono hR45
        replace hro19 := hro19.mono hR45
        replace hro40 := hro40.mono hR45
        replace hro44 := hro44.mono hR45
        refine S.call ent8 rfl (s_sum hSf45 (by exact hro45) (by exact turn_fits hf k) (by rw [List.length_append, List.length_drop, List.length_take]; omega)) rfl ?_
        rintro _ w48 ⟨rfl, hS48⟩
        clear hSf45
        refine S.as (d := 48) rfl (congrArg told (turn_sum xs k)) ?_
        refine S.moveT rfl ?_
        refine S.extract rfl rfl rfl ?_
        refine S.extract rfl rfl rfl ?_
        refine S.assignT rfl ?_
        refine S.assignT rfl ?_
        refine WS.done ?_
        refine WR.seq ?_
        refine WR.region rfl ?_
        refine S.moveT rfl ?_
        refine S.moveT rfl ?_
        refine S.eql rfl rfl rfl ?_
        refine S.isTD (d := 53) rfl (by rfl) ?_
        refine S.moveT rfl ?_
        refine S.moveT rfl ?_
        refine S.moveT rfl ?_
        refine S.eql rfl rfl rfl ?_
        refine S.isTD (d := 57) rfl (by rfl) ?_
        refine S.pickT rfl rfl ?_
        refine S.moveT rfl ?_
        refine S.moveT rfl ?_
        refine S.moveT rfl ?_
        refine S.eql rfl rfl rfl ?_
        refine S.isTD (d := 62) rfl (by rfl) ?_
        refine S.pickT rfl rfl ?_
        refine S.moveT rfl ?_
        refine S.moveT rfl ?_
        refine S.moveT rfl ?_
        refine S.eql rfl rfl rfl ?_
        refine S.isTD (d := 67) rfl (by rfl) ?_
        refine S.pickT rfl rfl ?_
        refine S.moveT rfl ?_
        refine S.moveT rfl ?_
        refine S.moveT rfl ?_
        refine S.call ent10 rfl (r_sameLongs hS48 (by exact hro19) (by exact h0) (by omega)) rfl ?_
        rintro _ w72 ⟨rfl, hS72⟩
        clear hS48
        refine S.isTD (d := 72) rfl (by rfl) ?_
        refine S.pickT rfl rfl ?_
        refine S.assignT rfl ?_
        refine WS.done ?_
        refine WR.ret (ret1 rfl rfl ?_)
        first | exact ⟨rfl, hS72.weak (hR19.trans hR45)⟩ | exact ⟨rfl, hS72⟩
      ·
        skip
        refine WR.skip ?_
        refine WR.seq ?_
        first
          | refine Exists.elim (show ∃ k : Nat, turn = (k : Int) ∧ k ≤ xs.length from ⟨turn.toNat, by omega, by omega⟩) ?_
          | refine Exists.elim (show ∃ k : Nat, (0 : Int) = (k : Int) ∧ k ≤ xs.length from ⟨0, rfl, by omega⟩) ?_
        rintro k ⟨hk, hkl⟩
        refine WR.regionW (fun j => false) 9 rfl mixed hS27 ?_
        intro w6003 hS6003; clear hS27; have hC := hS6003
        refine WA.take (fuel := 8) 0 rfl (by kernel_rfl) (by kernel_rfl) (by kernel_rfl) (by kernel_rfl) rfl rfl hC ?_
        refine Q.moveT rfl ?_
        refine WQ.done ?_
        refine WA.take (fuel := 7) 1 rfl (by kernel_rfl) (by kernel_rfl) (by kernel_rfl) (by kernel_rfl) rfl rfl hC ?_
        refine Q.moveT rfl ?_
        refine WQ.done ?_
        refine WA.take (fuel := 6) 2 rfl (by kernel_rfl) (by kernel_rfl) (by kernel_rfl) (by kernel_rfl) rfl rfl hC ?_
        refine Q.sliceLo (k) h0 Try.underlying22 ti2 rfl rfl (by omega) (by omega) rfl ?_
        intro a40 cc40 hro40
        refine WQ.done ?_
        refine WA.take (fuel := 5) 4 rfl (by kernel_rfl) (by kernel_rfl) (by kernel_rfl) (by kernel_rfl) rfl rfl hC ?_
        refine Q.moveT rfl ?_
        refine WQ.done ?_
        refine WA.take (fuel := 4) 5 rfl (by kernel_rfl) (by kernel_rfl) (by kernel_rfl) (by kernel_rfl) rfl rfl hC ?_
        refine Q.moveT rfl ?_
        refine WQ.done ?_
        refine WA.take (fuel := 3) 6 rfl (by kernel_rfl) (by kernel_rfl) (by kernel_rfl) (by kernel_rfl) rfl rfl hC ?_
        refine Q.sliceHi (k) h0 Try.underlying22 ti2 rfl rfl (by omega) (by omega) rfl ?_
        intro a44 cc44 hro44
        refine WQ.done ?_
        refine WA.one (fuel := 2) 3 rfl (by kernel_rfl) rfl ?_
        refine S.call ent7 rfl (r_copyLongs hS6003 (by exact hro40) (by rw [List.length_drop]; omega)) rfl ?_
        rintro v41 w41 hS41
        clear hS6003
        refine WS.done ⟨fun _ => hS41.drop, ?_⟩
        replace hC := hS41.drop
        refine WA.one (fuel := 1) 7 rfl (by kernel_rfl) rfl ?_
        refine S.appendRo (i := 0) hS41 rfl hro44 Try.underlying22 ti2 rfl rfl rfl rfl encI_one (by rw [List.length_drop, List.length_take]; omega) rfl ?_
        intro v45 w45 hS45; clear hS41
        refine WS.done ⟨fun _ => hS45.drop, ?_⟩
        replace hC := hS45.drop
        refine WA.take (fuel := 0) 8 rfl (by kernel_rfl) (by kernel_rfl) (by kernel_rfl) (by kernel_rfl) rfl rfl hC ?_
        refine Q.assignT rfl ?_
        refine WQ.done ?_
        refine WA.done (by kernel_rfl) ?_
        clear hC
        refine WR.seq ?_
        refine WR.region rfl ?_
        refine S.moveT rfl ?_
        obtain ⟨R45, hR45, hro45, hSf45⟩ := hS45.freeze (fun _ _ => rfl)
        replace h0 := h0.mono hR45
        replace hro19 := hro19.mono hR45
        replace hro40 := hro40.mono hR45
        replace hro44 := hro44.mono hR45
        refine S.call ent8 rfl (s_sum hSf45 (by exact hro45) (by exact turn_fits hf k) (by rw [List.length_append, List.length_drop, List.length_take]; omega)) rfl ?_
        rintro _ w48 ⟨rfl, hS48⟩
        clear hSf45
        refine S.as (d := 48) rfl (congrArg told (turn_sum xs k)) ?_
        refine S.moveT rfl ?_
        refine S.extract rfl rfl rfl ?_
        refine S.extract rfl rfl rfl ?_
        refine S.assignT rfl ?_
        refine S.assignT rfl ?_
        refine WS.done ?_
        refine WR.seq ?_
        refine WR.region rfl ?_
        refine S.moveT rfl ?_
        refine S.moveT rfl ?_
        refine S.eql rfl rfl rfl ?_
        refine S.isTD (d := 53) rfl (by rfl) ?_
        refine S.moveT rfl ?_
        refine S.moveT rfl ?_
        refine S.moveT rfl ?_
        refine S.eql rfl rfl rfl ?_
        refine S.isTD (d := 57) rfl (by rfl) ?_
        refine S.pickT rfl rfl ?_
        refine S.moveT rfl ?_
        refine S.moveT rfl ?_
        refine S.moveT rfl ?_
        refine S.eql rfl rfl rfl ?_
        refine S.isTD (d := 62) rfl (by rfl) ?_
        refine S.pickT rfl rfl ?_
        refine S.moveT rfl ?_
        refine S.moveT rfl ?_
        refine S.moveT rfl ?_
        refine S.eql rfl rfl rfl ?_
        refine S.isTD (d := 67) rfl (by rfl) ?_
        refine S.pickT rfl rfl ?_
        refine S.moveT rfl ?_
        refine S.moveT rfl ?_
        refine S.moveT rfl ?_
        refine S.call ent10 rfl (r_sameLongs hS48 (by exact hro19) (by exact h0) (by omega)) rfl ?_
        rintro _ w72 ⟨rfl, hS72⟩
        clear hS48
        refine S.isTD (d := 72) rfl (by rfl) ?_
        refine S.pickT rfl rfl ?_
        refine S.assignT rfl ?_
        refine WS.done ?_
        refine WR.ret (ret1 rfl rfl ?_)
        first | exact ⟨rfl, hS72.weak (hR19.trans hR45)⟩ | exact ⟨rfl, hS72⟩


end Go.Proofs.Ytlipmgepneffkaa.B

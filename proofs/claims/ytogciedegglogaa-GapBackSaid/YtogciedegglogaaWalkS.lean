import Derived.Test.YtogciedegglogaaTypes
namespace Go.Proofs.Ytogciedegglogaa.B
open Go.Proofs Go.RowKit
set_option linter.unusedVariables false
set_option linter.unusedSimpArgs false
set_option maxRecDepth 100000 in
set_option maxHeartbeats 4000000 in
theorem s_add {w : World} {R : Kn} {L : List HP} (hS : St w R (L)) {a b : Int} (ha : fits a) (hb : fits b) :
    Fn Try.prog 25 #[.int .i64 a, .int .i64 b] w (fun v w' => v = told (a + b) ∧ St w' R L) := by
  refine Fn.intro (n := 23) Try.func25 rfl rfl rfl ?_
  refine WR.seq ?_
  refine WR.region rfl ?_
  refine S.assignC rfl ?_
  refine S.assignC rfl ?_
  refine WS.done ?_
  refine WR.seq ?_
  refine WR.region rfl ?_
  refine S.moveT rfl ?_
  refine S.moveT rfl ?_
  first
    | refine S.addN rfl rfl rfl (by omega) ?_
    | refine S.add rfl rfl rfl ?_
  refine S.assignT rfl ?_
  refine WS.done ?_
  refine WR.seq ?_
  refine WR.seq ?_
  refine WR.region rfl ?_
  refine S.moveT rfl ?_
  refine S.geq rfl rfl rfl ?_
  refine S.moveT rfl ?_
  refine S.geq rfl rfl rfl ?_
  refine S.eqlB Try.underlying4 rfl rfl rfl ?_
  refine S.moveT rfl ?_
  refine S.splitB (d := 15) rfl (fun c15 => ?_) (fun c15 => ?_)
  ·
    skip
    refine S.moveT rfl ?_
    refine S.geq rfl rfl rfl ?_
    refine S.moveT rfl ?_
    refine S.geq rfl rfl rfl ?_
    refine S.neqB Try.underlying4 rfl rfl rfl ?_
    refine S.pickT rfl rfl ?_
    refine WS.done ?_
    refine WR.cond rfl (fun c21 => ?_) (fun c21 => ?_)
    ·
      skip
      refine WR.seq ?_
      refine WR.region rfl ?_
      refine S.assignC rfl ?_
      refine S.assignC rfl ?_
      refine WS.done ?_
      refine WR.ret (ret2 rfl rfl rfl ?_)
      exact ⟨add_out ha hb c15 c21, hS⟩
    ·
      skip
      refine WR.skip ?_
      refine WR.seq ?_
      refine WR.region rfl ?_
      refine S.moveT rfl ?_
      refine S.assignT rfl ?_
      refine S.assignC rfl ?_
      refine WS.done ?_
      refine WR.ret (ret2 rfl rfl rfl ?_)
      exact ⟨add_in1 ha hb c21, hS⟩
  ·
    skip
    refine S.off rfl ?_
    refine S.off rfl ?_
    refine S.off rfl ?_
    refine S.off rfl ?_
    refine S.off rfl ?_
    refine S.pickFC rfl rfl ?_
    refine WS.done ?_
    refine WR.condF rfl ?_
    refine WR.skip ?_
    refine WR.seq ?_
    refine WR.region rfl ?_
    refine S.moveT rfl ?_
    refine S.assignT rfl ?_
    refine S.assignC rfl ?_
    refine WS.done ?_
    refine WR.ret (ret2 rfl rfl rfl ?_)
    exact ⟨add_in2 ha hb c15, hS⟩

set_option maxRecDepth 100000 in
set_option maxHeartbeats 4000000 in
theorem s_sub {w : World} {R : Kn} {L : List HP} (hS : St w R (L)) {a b : Int} (ha : fits a) (hb : fits b) :
    Fn Try.prog 27 #[.int .i64 a, .int .i64 b] w (fun v w' => v = told (a - b) ∧ St w' R L) := by
  refine Fn.intro (n := 23) Try.func27 rfl rfl rfl ?_
  refine WR.seq ?_
  refine WR.region rfl ?_
  refine S.assignC rfl ?_
  refine S.assignC rfl ?_
  refine WS.done ?_
  refine WR.seq ?_
  refine WR.region rfl ?_
  refine S.moveT rfl ?_
  refine S.moveT rfl ?_
  first
    | refine S.subN rfl rfl rfl (by omega) ?_
    | refine S.sub rfl rfl rfl ?_
  refine S.assignT rfl ?_
  refine WS.done ?_
  refine WR.seq ?_
  refine WR.seq ?_
  refine WR.region rfl ?_
  refine S.moveT rfl ?_
  refine S.geq rfl rfl rfl ?_
  refine S.moveT rfl ?_
  refine S.geq rfl rfl rfl ?_
  refine S.neqB Try.underlying4 rfl rfl rfl ?_
  refine S.moveT rfl ?_
  refine S.splitB (d := 15) rfl (fun c15 => ?_) (fun c15 => ?_)
  ·
    skip
    refine S.moveT rfl ?_
    refine S.geq rfl rfl rfl ?_
    refine S.moveT rfl ?_
    refine S.geq rfl rfl rfl ?_
    refine S.neqB Try.underlying4 rfl rfl rfl ?_
    refine S.pickT rfl rfl ?_
    refine WS.done ?_
    refine WR.cond rfl (fun c21 => ?_) (fun c21 => ?_)
    ·
      skip
      refine WR.seq ?_
      refine WR.region rfl ?_
      refine S.assignC rfl ?_
      refine S.assignC rfl ?_
      refine WS.done ?_
      refine WR.ret (ret2 rfl rfl rfl ?_)
      exact ⟨sub_out ha hb c15 c21, hS⟩
    ·
      skip
      refine WR.skip ?_
      refine WR.seq ?_
      refine WR.region rfl ?_
      refine S.moveT rfl ?_
      refine S.assignT rfl ?_
      refine S.assignC rfl ?_
      refine WS.done ?_
      refine WR.ret (ret2 rfl rfl rfl ?_)
      exact ⟨sub_in1 ha hb c21, hS⟩
  ·
    skip
    refine S.off rfl ?_
    refine S.off rfl ?_
    refine S.off rfl ?_
    refine S.off rfl ?_
    refine S.off rfl ?_
    refine S.pickFC rfl rfl ?_
    refine WS.done ?_
    refine WR.condF rfl ?_
    refine WR.skip ?_
    refine WR.seq ?_
    refine WR.region rfl ?_
    refine S.moveT rfl ?_
    refine S.assignT rfl ?_
    refine S.assignC rfl ?_
    refine WS.done ?_
    refine WR.ret (ret2 rfl rfl rfl ?_)
    exact ⟨sub_in2 ha hb c15, hS⟩


end Go.Proofs.Ytogciedegglogaa.B

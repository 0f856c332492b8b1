import Derived.Test.YtmmdbincgianaaaWalkN
namespace Go.Proofs.Ytmmdbincgianaaa.B
open Go.Proofs Go.RowKit
set_option linter.unusedVariables false
set_option linter.unusedSimpArgs false
set_option maxRecDepth 100000 in
set_option maxHeartbeats 4000000 in
theorem s_len64 {w : World} {R : Kn} {L : List HP}  (hS : St w R (L)) {a : Int} (ha : 0 ≤ a ∧ a < 18446744073709551616) :
    Fn Try.prog 46 #[.int .u64 a] w (fun v w' => v = .int .i64 (bitLen a.toNat) ∧ St w' R L) := by
  refine Fn.intro (n := 25) Try.func46 rfl rfl rfl ?_
  refine WR.seq ?_
  refine WR.region rfl ?_
  refine S.assignC rfl ?_
  refine WS.done ?_
  refine WR.seq ?_
  refine WR.seq ?_
  refine WR.region rfl ?_
  refine S.moveT rfl ?_
  refine S.geq rfl rfl rfl ?_
  refine WS.done ?_
  refine WR.condD rfl (fun c4 => ?_) (fun c4 => ?_)
  ·
    skip
    refine WR.seq ?_
    refine WR.region rfl ?_
    refine S.moveT rfl ?_
    refine S.shrC (q := 4294967296) rfl rfl rfl (by decide) rfl rfl ?_
    refine S.assignT rfl ?_
    refine WS.done ?_
    refine WR.region rfl ?_
    refine S.assignC rfl ?_
    refine WS.done ?_
    refine WR.seq ?_
    refine WR.seq ?_
    refine WR.region rfl ?_
    refine S.moveT rfl ?_
    refine S.geq rfl rfl rfl ?_
    refine WS.done ?_
    refine WR.condD rfl (fun c8 => ?_) (fun c8 => ?_)
    ·
      skip
      refine WR.seq ?_
      refine WR.region rfl ?_
      refine S.moveT rfl ?_
      refine S.shrC (q := 65536) rfl rfl rfl (by decide) rfl rfl ?_
      refine S.assignT rfl ?_
      refine WS.done ?_
      refine WR.region rfl ?_
      refine S.moveT rfl ?_
      first
        | refine S.addN rfl rfl rfl (by omega) ?_
        | refine S.add rfl rfl rfl ?_
      refine S.assignT rfl ?_
      refine WS.done ?_
      refine WR.seq ?_
      refine WR.seq ?_
      refine WR.region rfl ?_
      refine S.moveT rfl ?_
      refine S.geq rfl rfl rfl ?_
      refine WS.done ?_
      refine WR.condD rfl (fun c14 => ?_) (fun c14 => ?_)
      ·
        skip
        refine WR.seq ?_
        refine WR.region rfl ?_
        refine S.moveT rfl ?_
        refine S.shrC (q := 256) rfl rfl rfl (by decide) rfl rfl ?_
        refine S.assignT rfl ?_
        refine WS.done ?_
        refine WR.region rfl ?_
        refine S.moveT rfl ?_
        first
          | refine S.addN rfl rfl rfl (by omega) ?_
          | refine S.add rfl rfl rfl ?_
        refine S.assignT rfl ?_
        refine WS.done ?_
        refine WR.seq ?_
        refine WR.region rfl ?_
        refine S.moveT rfl ?_
        refine S.moveT rfl ?_
        first
          | refine S.convN Try.underlying38 Try.underlying5 rfl rfl (wrap_u8 (by omega) (by omega)) ?_
          | refine S.conv Try.underlying38 Try.underlying5 rfl rfl ?_
        refine S.indexLen Try.underlying9 rfl rfl (by omega) (by omega) rfl (by decide +kernel) rfl ?_
        intro yy hyy hy8
        first
          | refine S.convN Try.underlying5 Try.underlying3 rfl rfl (wrap_i64 (by omega) (by omega)) ?_
          | refine S.conv Try.underlying5 Try.underlying3 rfl rfl ?_
        first
          | refine S.addN rfl rfl rfl (by omega) ?_
          | refine S.add rfl rfl rfl ?_
        refine S.assignT rfl ?_
        refine WS.done ?_
        refine WR.ret (ret1 rfl rfl ?_)
        exact ⟨congrArg (Value.int .i64) (by first | exact len64_fin 0 1 rfl yy hyy (by omega) (.inl rfl) (by omega) | exact len64_fin 8 256 rfl yy hyy (by omega) (.inr (by omega)) (by omega) | exact len64_fin 16 65536 rfl yy hyy (by omega) (.inr (by omega)) (by omega) | exact len64_fin 24 16777216 rfl yy hyy (by omega) (.inr (by omega)) (by omega) | exact len64_fin 32 4294967296 rfl yy hyy (by omega) (.inr (by omega)) (by omega) | exact len64_fin 40 1099511627776 rfl yy hyy (by omega) (.inr (by omega)) (by omega) | exact len64_fin 48 281474976710656 rfl yy hyy (by omega) (.inr (by omega)) (by omega) | exact len64_fin 56 72057594037927936 rfl yy hyy (by omega) (.inr (by omega)) (by omega)), hS⟩
      ·
        skip
        refine WR.skip ?_
        refine WR.seq ?_
        refine WR.region rfl ?_
        refine S.moveT rfl ?_
        refine S.moveT rfl ?_
        first
          | refine S.convN Try.underlying38 Try.underlying5 rfl rfl (wrap_u8 (by omega) (by omega)) ?_
          | refine S.conv Try.underlying38 Try.underlying5 rfl rfl ?_
        refine S.indexLen Try.underlying9 rfl rfl (by omega) (by omega) rfl (by decide +kernel) rfl ?_
        intro yy hyy hy8
        first
          | refine S.convN Try.underlying5 Try.underlying3 rfl rfl (wrap_i64 (by omega) (by omega)) ?_
          | refine S.conv Try.underlying5 Try.underlying3 rfl rfl ?_
        first
          | refine S.addN rfl rfl rfl (by omega) ?_
          | refine S.add rfl rfl rfl ?_
        refine S.assignT rfl ?_
        refine WS.done ?_
        refine WR.ret (ret1 rfl rfl ?_)
        exact ⟨congrArg (Value.int .i64) (by first | exact len64_fin 0 1 rfl yy hyy (by omega) (.inl rfl) (by omega) | exact len64_fin 8 256 rfl yy hyy (by omega) (.inr (by omega)) (by omega) | exact len64_fin 16 65536 rfl yy hyy (by omega) (.inr (by omega)) (by omega) | exact len64_fin 24 16777216 rfl yy hyy (by omega) (.inr (by omega)) (by omega) | exact len64_fin 32 4294967296 rfl yy hyy (by omega) (.inr (by omega)) (by omega) | exact len64_fin 40 1099511627776 rfl yy hyy (by omega) (.inr (by omega)) (by omega) | exact len64_fin 48 281474976710656 rfl yy hyy (by omega) (.inr (by omega)) (by omega) | exact len64_fin 56 72057594037927936 rfl yy hyy (by omega) (.inr (by omega)) (by omega)), hS⟩
    ·
      skip
      refine WR.skip ?_
      refine WR.seq ?_
      refine WR.seq ?_
      refine WR.region rfl ?_
      refine S.moveT rfl ?_
      refine S.geq rfl rfl rfl ?_
      refine WS.done ?_
      refine WR.condD rfl (fun c14 => ?_) (fun c14 => ?_)
      ·
        skip
        refine WR.seq ?_
        refine WR.region rfl ?_
        refine S.moveT rfl ?_
        refine S.shrC (q := 256) rfl rfl rfl (by decide) rfl rfl ?_
        refine S.assignT rfl ?_
        refine WS.done ?_
        refine WR.region rfl ?_
        refine S.moveT rfl ?_
        first
          | refine S.addN rfl rfl rfl (by omega) ?_
          | refine S.add rfl rfl rfl ?_
        refine S.assignT rfl ?_
        refine WS.done ?_
        refine WR.seq ?_
        refine WR.region rfl ?_
        refine S.moveT rfl ?_
        refine S.moveT rfl ?_
        first
          | refine S.convN Try.underlying38 Try.underlying5 rfl rfl (wrap_u8 (by omega) (by omega)) ?_
          | refine S.conv Try.underlying38 Try.underlying5 rfl rfl ?_
        refine S.indexLen Try.underlying9 rfl rfl (by omega) (by omega) rfl (by decide +kernel) rfl ?_
        intro yy hyy hy8
        first
          | refine S.convN Try.underlying5 Try.underlying3 rfl rfl (wrap_i64 (by omega) (by omega)) ?_
          | refine S.conv Try.underlying5 Try.underlying3 rfl rfl ?_
        first
          | refine S.addN rfl rfl rfl (by omega) ?_
          | refine S.add rfl rfl rfl ?_
        refine S.assignT rfl ?_
        refine WS.done ?_
        refine WR.ret (ret1 rfl rfl ?_)
        exact ⟨congrArg (Value.int .i64) (by first | exact len64_fin 0 1 rfl yy hyy (by omega) (.inl rfl) (by omega) | exact len64_fin 8 256 rfl yy hyy (by omega) (.inr (by omega)) (by omega) | exact len64_fin 16 65536 rfl yy hyy (by omega) (.inr (by omega)) (by omega) | exact len64_fin 24 16777216 rfl yy hyy (by omega) (.inr (by omega)) (by omega) | exact len64_fin 32 4294967296 rfl yy hyy (by omega) (.inr (by omega)) (by omega) | exact len64_fin 40 1099511627776 rfl yy hyy (by omega) (.inr (by omega)) (by omega) | exact len64_fin 48 281474976710656 rfl yy hyy (by omega) (.inr (by omega)) (by omega) | exact len64_fin 56 72057594037927936 rfl yy hyy (by omega) (.inr (by omega)) (by omega)), hS⟩
      ·
        skip
        refine WR.skip ?_
        refine WR.seq ?_
        refine WR.region rfl ?_
        refine S.moveT rfl ?_
        refine S.moveT rfl ?_
        first
          | refine S.convN Try.underlying38 Try.underlying5 rfl rfl (wrap_u8 (by omega) (by omega)) ?_
          | refine S.conv Try.underlying38 Try.underlying5 rfl rfl ?_
        refine S.indexLen Try.underlying9 rfl rfl (by omega) (by omega) rfl (by decide +kernel) rfl ?_
        intro yy hyy hy8
        first
          | refine S.convN Try.underlying5 Try.underlying3 rfl rfl (wrap_i64 (by omega) (by omega)) ?_
          | refine S.conv Try.underlying5 Try.underlying3 rfl rfl ?_
        first
          | refine S.addN rfl rfl rfl (by omega) ?_
          | refine S.add rfl rfl rfl ?_
        refine S.assignT rfl ?_
        refine WS.done ?_
        refine WR.ret (ret1 rfl rfl ?_)
        exact ⟨congrArg (Value.int .i64) (by first | exact len64_fin 0 1 rfl yy hyy (by omega) (.inl rfl) (by omega) | exact len64_fin 8 256 rfl yy hyy (by omega) (.inr (by omega)) (by omega) | exact len64_fin 16 65536 rfl yy hyy (by omega) (.inr (by omega)) (by omega) | exact len64_fin 24 16777216 rfl yy hyy (by omega) (.inr (by omega)) (by omega) | exact len64_fin 32 4294967296 rfl yy hyy (by omega) (.inr (by omega)) (by omega) | exact len64_fin 40 1099511627776 rfl yy hyy (by omega) (.inr (by omega)) (by omega) | exact len64_fin 48 281474976710656 rfl yy hyy (by omega) (.inr (by omega)) (by omega) | exact len64_fin 56 72057594037927936 rfl yy hyy (by omega) (.inr (by omega)) (by omega)), hS⟩
  ·
    skip
    refine WR.skip ?_
    refine WR.seq ?_
    refine WR.seq ?_
    refine WR.region rfl ?_
    refine S.moveT rfl ?_
    refine S.geq rfl rfl rfl ?_
    refine WS.done ?_
    refine WR.condD rfl (fun c8 => ?_) (fun c8 => ?_)
    ·
      skip
      refine WR.seq ?_
      refine WR.region rfl ?_
      refine S.moveT rfl ?_
      refine S.shrC (q := 65536) rfl rfl rfl (by decide) rfl rfl ?_
      refine S.assignT rfl ?_
      refine WS.done ?_
      refine WR.region rfl ?_
      refine S.moveT rfl ?_
      first
        | refine S.addN rfl rfl rfl (by omega) ?_
        | refine S.add rfl rfl rfl ?_
      refine S.assignT rfl ?_
      refine WS.done ?_
      refine WR.seq ?_
      refine WR.seq ?_
      refine WR.region rfl ?_
      refine S.moveT rfl ?_
      refine S.geq rfl rfl rfl ?_
      refine WS.done ?_
      refine WR.condD rfl (fun c14 => ?_) (fun c14 => ?_)
      ·
        skip
        refine WR.seq ?_
        refine WR.region rfl ?_
        refine S.moveT rfl ?_
        refine S.shrC (q := 256) rfl rfl rfl (by decide) rfl rfl ?_
        refine S.assignT rfl ?_
        refine WS.done ?_
        refine WR.region rfl ?_
        refine S.moveT rfl ?_
        first
          | refine S.addN rfl rfl rfl (by omega) ?_
          | refine S.add rfl rfl rfl ?_
        refine S.assignT rfl ?_
        refine WS.done ?_
        refine WR.seq ?_
        refine WR.region rfl ?_
        refine S.moveT rfl ?_
        refine S.moveT rfl ?_
        first
          | refine S.convN Try.underlying38 Try.underlying5 rfl rfl (wrap_u8 (by omega) (by omega)) ?_
          | refine S.conv Try.underlying38 Try.underlying5 rfl rfl ?_
        refine S.indexLen Try.underlying9 rfl rfl (by omega) (by omega) rfl (by decide +kernel) rfl ?_
        intro yy hyy hy8
        first
          | refine S.convN Try.underlying5 Try.underlying3 rfl rfl (wrap_i64 (by omega) (by omega)) ?_
          | refine S.conv Try.underlying5 Try.underlying3 rfl rfl ?_
        first
          | refine S.addN rfl rfl rfl (by omega) ?_
          | refine S.add rfl rfl rfl ?_
        refine S.assignT rfl ?_
        refine WS.done ?_
        refine WR.ret (ret1 rfl rfl ?_)
        exact ⟨congrArg (Value.int .i64) (by first | exact len64_fin 0 1 rfl yy hyy (by omega) (.inl rfl) (by omega) | exact len64_fin 8 256 rfl yy hyy (by omega) (.inr (by omega)) (by omega) | exact len64_fin 16 65536 rfl yy hyy (by omega) (.inr (by omega)) (by omega) | exact len64_fin 24 16777216 rfl yy hyy (by omega) (.inr (by omega)) (by omega) | exact len64_fin 32 4294967296 rfl yy hyy (by omega) (.inr (by omega)) (by omega) | exact len64_fin 40 1099511627776 rfl yy hyy (by omega) (.inr (by omega)) (by omega) | exact len64_fin 48 281474976710656 rfl yy hyy (by omega) (.inr (by omega)) (by omega) | exact len64_fin 56 72057594037927936 rfl yy hyy (by omega) (.inr (by omega)) (by omega)), hS⟩
      ·
        skip
        refine WR.skip ?_
        refine WR.seq ?_
        refine WR.region rfl ?_
        refine S.moveT rfl ?_
        refine S.moveT rfl ?_
        first
          | refine S.convN Try.underlying38 Try.underlying5 rfl rfl (wrap_u8 (by omega) (by omega)) ?_
          | refine S.conv Try.underlying38 Try.underlying5 rfl rfl ?_
        refine S.indexLen Try.underlying9 rfl rfl (by omega) (by omega) rfl (by decide +kernel) rfl ?_
        intro yy hyy hy8
        first
          | refine S.convN Try.underlying5 Try.underlying3 rfl rfl (wrap_i64 (by omega) (by omega)) ?_
          | refine S.conv Try.underlying5 Try.underlying3 rfl rfl ?_
        first
          | refine S.addN rfl rfl rfl (by omega) ?_
          | refine S.add rfl rfl rfl ?_
        refine S.assignT rfl ?_
        refine WS.done ?_
        refine WR.ret (ret1 rfl rfl ?_)
        exact ⟨congrArg (Value.int .i64) (by first | exact len64_fin 0 1 rfl yy hyy (by omega) (.inl rfl) (by omega) | exact len64_fin 8 256 rfl yy hyy (by omega) (.inr (by omega)) (by omega) | exact len64_fin 16 65536 rfl yy hyy (by omega) (.inr (by omega)) (by omega) | exact len64_fin 24 16777216 rfl yy hyy (by omega) (.inr (by omega)) (by omega) | exact len64_fin 32 4294967296 rfl yy hyy (by omega) (.inr (by omega)) (by omega) | exact len64_fin 40 1099511627776 rfl yy hyy (by omega) (.inr (by omega)) (by omega) | exact len64_fin 48 281474976710656 rfl yy hyy (by omega) (.inr (by omega)) (by omega) | exact len64_fin 56 72057594037927936 rfl yy hyy (by omega) (.inr (by omega)) (by omega)), hS⟩
    ·
      skip
      refine WR.skip ?_
      refine WR.seq ?_
      refine WR.seq ?_
      refine WR.region rfl ?_
      refine S.moveT rfl ?_
      refine S.geq rfl rfl rfl ?_
      refine WS.done ?_
      refine WR.condD rfl (fun c14 => ?_) (fun c14 => ?_)
      ·
        skip
        refine WR.seq ?_
        refine WR.region rfl ?_
        refine S.moveT rfl ?_
        refine S.shrC (q := 256) rfl rfl rfl (by decide) rfl rfl ?_
        refine S.assignT rfl ?_
        refine WS.done ?_
        refine WR.region rfl ?_
        refine S.moveT rfl ?_
        first
          | refine S.addN rfl rfl rfl (by omega) ?_
          | refine S.add rfl rfl rfl ?_
        refine S.assignT rfl ?_
        refine WS.done ?_
        refine WR.seq ?_
        refine WR.region rfl ?_
        refine S.moveT rfl ?_
        refine S.moveT rfl ?_
        first
          | refine S.convN Try.underlying38 Try.underlying5 rfl rfl (wrap_u8 (by omega) (by omega)) ?_
          | refine S.conv Try.underlying38 Try.underlying5 rfl rfl ?_
        refine S.indexLen Try.underlying9 rfl rfl (by omega) (by omega) rfl (by decide +kernel) rfl ?_
        intro yy hyy hy8
        first
          | refine S.convN Try.underlying5 Try.underlying3 rfl rfl (wrap_i64 (by omega) (by omega)) ?_
          | refine S.conv Try.underlying5 Try.underlying3 rfl rfl ?_
        first
          | refine S.addN rfl rfl rfl (by omega) ?_
          | refine S.add rfl rfl rfl ?_
        refine S.assignT rfl ?_
        refine WS.done ?_
        refine WR.ret (ret1 rfl rfl ?_)
        exact ⟨congrArg (Value.int .i64) (by first | exact len64_fin 0 1 rfl yy hyy (by omega) (.inl rfl) (by omega) | exact len64_fin 8 256 rfl yy hyy (by omega) (.inr (by omega)) (by omega) | exact len64_fin 16 65536 rfl yy hyy (by omega) (.inr (by omega)) (by omega) | exact len64_fin 24 16777216 rfl yy hyy (by omega) (.inr (by omega)) (by omega) | exact len64_fin 32 4294967296 rfl yy hyy (by omega) (.inr (by omega)) (by omega) | exact len64_fin 40 1099511627776 rfl yy hyy (by omega) (.inr (by omega)) (by omega) | exact len64_fin 48 281474976710656 rfl yy hyy (by omega) (.inr (by omega)) (by omega) | exact len64_fin 56 72057594037927936 rfl yy hyy (by omega) (.inr (by omega)) (by omega)), hS⟩
      ·
        skip
        refine WR.skip ?_
        refine WR.seq ?_
        refine WR.region rfl ?_
        refine S.moveT rfl ?_
        refine S.moveT rfl ?_
        first
          | refine S.convN Try.underlying38 Try.underlying5 rfl rfl (wrap_u8 (by omega) (by omega)) ?_
          | refine S.conv Try.underlying38 Try.underlying5 rfl rfl ?_
        refine S.indexLen Try.underlying9 rfl rfl (by omega) (by omega) rfl (by decide +kernel) rfl ?_
        intro yy hyy hy8
        first
          | refine S.convN Try.underlying5 Try.underlying3 rfl rfl (wrap_i64 (by omega) (by omega)) ?_
          | refine S.conv Try.underlying5 Try.underlying3 rfl rfl ?_
        first
          | refine S.addN rfl rfl rfl (by omega) ?_
          | refine S.add rfl rfl rfl ?_
        refine S.assignT rfl ?_
        refine WS.done ?_
        refine WR.ret (ret1 rfl rfl ?_)
        exact ⟨congrArg (Value.int .i64) (by first | exact len64_fin 0 1 rfl yy hyy (by omega) (.inl rfl) (by omega) | exact len64_fin 8 256 rfl yy hyy (by omega) (.inr (by omega)) (by omega) | exact len64_fin 16 65536 rfl yy hyy (by omega) (.inr (by omega)) (by omega) | exact len64_fin 24 16777216 rfl yy hyy (by omega) (.inr (by omega)) (by omega) | exact len64_fin 32 4294967296 rfl yy hyy (by omega) (.inr (by omega)) (by omega) | exact len64_fin 40 1099511627776 rfl yy hyy (by omega) (.inr (by omega)) (by omega) | exact len64_fin 48 281474976710656 rfl yy hyy (by omega) (.inr (by omega)) (by omega) | exact len64_fin 56 72057594037927936 rfl yy hyy (by omega) (.inr (by omega)) (by omega)), hS⟩

set_option maxRecDepth 100000 in
set_option maxHeartbeats 4000000 in
theorem s_add {w : World} {R : Kn} {L : List HP}  (hS : St w R (L)) {a b : Int} (ha : fits a) (hb : fits b) :
    Fn Try.prog 29 #[.int .i64 a, .int .i64 b] w (fun v w' => v = told (a + b) ∧ St w' R L) := by
  refine Fn.intro (n := 23) Try.func29 rfl rfl rfl ?_
  refine WR.seq ?_
  refine WR.region rfl ?_
  refine S.assignC rfl ?_
  refine S.assignC rfl ?_
  refine WS.done ?_
  refine WR.seq ?_
  refine WR.region rfl ?_
  refine S.moveT rfl ?_
  refine S.moveT rfl ?_
  first
    | refine S.addN rfl rfl rfl (by omega) ?_
    | refine S.add rfl rfl rfl ?_
  refine S.assignT rfl ?_
  refine WS.done ?_
  refine WR.seq ?_
  refine WR.seq ?_
  refine WR.region rfl ?_
  refine S.moveT rfl ?_
  refine S.geq rfl rfl rfl ?_
  refine S.moveT rfl ?_
  refine S.geq rfl rfl rfl ?_
  refine S.eqlB Try.underlying4 rfl rfl rfl ?_
  refine S.moveT rfl ?_
  refine S.splitB (d := 15) rfl (fun c15 => ?_) (fun c15 => ?_)
  ·
    skip
    refine S.moveT rfl ?_
    refine S.geq rfl rfl rfl ?_
    refine S.moveT rfl ?_
    refine S.geq rfl rfl rfl ?_
    refine S.neqB Try.underlying4 rfl rfl rfl ?_
    refine S.pickT rfl rfl ?_
    refine WS.done ?_
    refine WR.cond rfl (fun c21 => ?_) (fun c21 => ?_)
    ·
      skip
      refine WR.seq ?_
      refine WR.region rfl ?_
      refine S.assignC rfl ?_
      refine S.assignC rfl ?_
      refine WS.done ?_
      refine WR.ret (ret2 rfl rfl rfl ?_)
      exact ⟨add_out ha hb c15 c21, hS⟩
    ·
      skip
      refine WR.skip ?_
      refine WR.seq ?_
      refine WR.region rfl ?_
      refine S.moveT rfl ?_
      refine S.assignT rfl ?_
      refine S.assignC rfl ?_
      refine WS.done ?_
      refine WR.ret (ret2 rfl rfl rfl ?_)
      exact ⟨add_in1 ha hb c21, hS⟩
  ·
    skip
    refine S.off rfl ?_
    refine S.off rfl ?_
    refine S.off rfl ?_
    refine S.off rfl ?_
    refine S.off rfl ?_
    refine S.pickFC rfl rfl ?_
    refine WS.done ?_
    refine WR.condF rfl ?_
    refine WR.skip ?_
    refine WR.seq ?_
    refine WR.region rfl ?_
    refine S.moveT rfl ?_
    refine S.assignT rfl ?_
    refine S.assignC rfl ?_
    refine WS.done ?_
    refine WR.ret (ret2 rfl rfl rfl ?_)
    exact ⟨add_in2 ha hb c15, hS⟩

set_option maxRecDepth 100000 in
set_option maxHeartbeats 4000000 in
theorem g_new {w : World} {R : Kn} {L : List HP}  (hS : St w R (L)) {a b : Int} :
    Fn Try.prog 47 #[.int .i64 a, .int .i64 b] w (fun v w' => ∃ p q, v = .tuple #[.agg #[.int .i64 p, .int .i64 q], .bool (decide (a ≤ b))] ∧ ((b < a ∧ p = 0 ∧ q = 0) ∨ (a ≤ b ∧ p = a ∧ q = b)) ∧ St w' R L) := by
  refine Fn.intro (n := 13) Try.func47 rfl rfl rfl ?_
  refine WR.seq ?_
  refine WR.region rfl ?_
  refine S.alloc hS ti60 rfl rfl ?_
  intro b4 w4 hS4; clear hS
  refine S.assignC rfl ?_
  refine WS.done ?_
  refine WR.seq ?_
  refine WR.seq ?_
  refine WR.region rfl ?_
  refine S.moveT rfl ?_
  refine S.moveT rfl ?_
  refine S.gtr rfl rfl rfl ?_
  refine WS.done ?_
  refine WR.condD rfl (fun c8 => ?_) (fun c8 => ?_)
  ·
    skip
    refine WR.seq ?_
    refine WR.region rfl ?_
    refine S.buildZero ti60 rfl (by kernel_rfl) rfl ?_
    refine S.storeB (i := 0) hS4 rfl ti60 rfl rfl rfl rfl rfl rfl rfl rfl ?_
    intro w2001 hS2001; clear hS4
    refine S.assignC rfl ?_
    refine WS.done ?_
    refine WR.ret (retC1 rfl rfl (run_loadBA (i := 0) hS2001 rfl Try.underlying60 rfl ti60 rfl rfl) rfl ?_)
    exact ⟨0, 0, tup2 rfl (congrArg Value.bool (decide_eq_false (by omega)).symm), by omega, hS2001.drop⟩
  ·
    skip
    refine WR.skip ?_
    refine WR.seq ?_
    refine WR.region rfl ?_
    refine S.moveT rfl ?_
    refine S.moveT rfl ?_
    refine S.buildStruct [.int _ _, .int _ _] [(0, 1), (1, 1)] Try.underlying60 ti60 rfl (by kernel_rfl) rfl rfl rfl rfl rfl rfl ?_
    refine S.storeB (i := 0) hS4 rfl ti60 rfl rfl rfl rfl rfl rfl rfl rfl ?_
    intro w2002 hS2002; clear hS4
    refine S.assignC rfl ?_
    refine WS.done ?_
    refine WR.ret (retC1 rfl rfl (run_loadBA (i := 0) hS2002 rfl Try.underlying60 rfl ti60 rfl rfl) rfl ?_)
    exact ⟨_, _, tup2 rfl (congrArg Value.bool (decide_eq_true (by omega)).symm), by omega, hS2002.drop⟩

set_option maxRecDepth 100000 in
set_option maxHeartbeats 4000000 in
theorem g_right {w : World} {R : Kn} {L : List HP}  (hS : St w R (L)) {a b : Int} :
    Fn Try.prog 26 #[.agg #[.int .i64 a, .int .i64 b]] w (fun v w' => v = .bool (decide (a ≤ b)) ∧ St w' R L) := by
  refine Fn.intro (n := 8) Try.func26 rfl rfl rfl ?_
  refine WR.seq ?_
  refine WR.region rfl ?_
  refine S.box hS rfl rfl rfl ?_
  intro b1 w1 hS1; clear hS
  refine S.assignC rfl ?_
  refine WS.done ?_
  refine WR.seq ?_
  refine WR.region rfl ?_
  refine S.fieldB Try.underlying60 rfl ti2 rfl rfl rfl rfl ?_
  refine S.loadB (i := 0) hS1 rfl Try.underlying2 rfl rfl rfl rfl ?_
  refine S.fieldB Try.underlying60 rfl ti2 rfl rfl rfl rfl ?_
  refine S.loadB (i := 0) hS1 rfl Try.underlying2 rfl rfl rfl rfl ?_
  refine S.leq rfl rfl rfl ?_
  refine S.assignT rfl ?_
  refine WS.done ?_
  refine WR.ret (ret1 rfl rfl ?_)
  exact ⟨rfl, hS1.drop⟩

set_option maxRecDepth 100000 in
set_option maxHeartbeats 4000000 in
theorem g_has {w : World} {R : Kn} {L : List HP}  (hS : St w R (L)) {a b x : Int} :
    Fn Try.prog 27 #[.agg #[.int .i64 a, .int .i64 b], .int .i64 x] w (fun v w' => v = .bool (decide (a ≤ x ∧ x ≤ b)) ∧ St w' R L) := by
  refine Fn.intro (n := 15) Try.func27 rfl rfl rfl ?_
  refine WR.seq ?_
  refine WR.region rfl ?_
  refine S.box hS rfl rfl rfl ?_
  intro b2 w2 hS2; clear hS
  refine S.assignC rfl ?_
  refine WS.done ?_
  refine WR.seq ?_
  refine WR.region rfl ?_
  refine S.fieldB Try.underlying60 rfl ti2 rfl rfl rfl rfl ?_
  refine S.loadB (i := 0) hS2 rfl Try.underlying2 rfl rfl rfl rfl ?_
  refine S.moveT rfl ?_
  refine S.leq rfl rfl rfl ?_
  refine S.moveT rfl ?_
  refine S.splitD (d := 9) rfl (fun c9 => ?_) (fun c9 => ?_)
  ·
    skip
    refine S.moveT rfl ?_
    refine S.fieldB Try.underlying60 rfl ti2 rfl rfl rfl rfl ?_
    refine S.loadB (i := 0) hS2 rfl Try.underlying2 rfl rfl rfl rfl ?_
    refine S.leq rfl rfl rfl ?_
    refine S.pickT rfl rfl ?_
    refine S.assignT rfl ?_
    refine WS.done ?_
    refine WR.ret (ret1 rfl rfl ?_)
    exact ⟨congrArg Value.bool (by first | exact decide_eq_decide.2 (by omega) | exact (decide_eq_false (by omega)).symm | exact (decide_eq_true (by omega)).symm), hS2.drop⟩
  ·
    skip
    refine S.off rfl ?_
    refine S.off rfl ?_
    refine S.off rfl ?_
    refine S.off rfl ?_
    refine S.pickFC rfl rfl ?_
    refine S.assignT rfl ?_
    refine WS.done ?_
    refine WR.ret (ret1 rfl rfl ?_)
    exact ⟨congrArg Value.bool (by first | exact decide_eq_decide.2 (by omega) | exact (decide_eq_false (by omega)).symm | exact (decide_eq_true (by omega)).symm), hS2.drop⟩

set_option maxRecDepth 100000 in
set_option maxHeartbeats 4000000 in
theorem cmp_nan_i64 {w : World} {R : Kn} {L : List HP}  (hS : St w R (L)) {a : Int} :
    Fn Try.prog 57 #[.int .i64 a] w (fun v w' => v = .bool false ∧ St w' R L) := by
  refine Fn.intro (n := 6) Try.func57 rfl rfl rfl ?_
  refine WR.seq ?_
  refine WR.region rfl ?_
  refine S.assignC rfl ?_
  refine WS.done ?_
  refine WR.seq ?_
  refine WR.region rfl ?_
  refine S.moveT rfl ?_
  refine S.moveT rfl ?_
  refine S.neq rfl rfl rfl ?_
  refine S.assignT rfl ?_
  refine WS.done ?_
  refine WR.ret (ret1 rfl rfl ?_)
  exact ⟨congrArg Value.bool (decide_eq_false (fun h => h rfl)), hS⟩

set_option maxRecDepth 100000 in
set_option maxHeartbeats 4000000 in
theorem cmp_nan_u64 {w : World} {R : Kn} {L : List HP}  (hS : St w R (L)) {a : Int} :
    Fn Try.prog 58 #[.int .u64 a] w (fun v w' => v = .bool false ∧ St w' R L) := by
  refine Fn.intro (n := 6) Try.func58 rfl rfl rfl ?_
  refine WR.seq ?_
  refine WR.region rfl ?_
  refine S.assignC rfl ?_
  refine WS.done ?_
  refine WR.seq ?_
  refine WR.region rfl ?_
  refine S.moveT rfl ?_
  refine S.moveT rfl ?_
  refine S.neq rfl rfl rfl ?_
  refine S.assignT rfl ?_
  refine WS.done ?_
  refine WR.ret (ret1 rfl rfl ?_)
  exact ⟨congrArg Value.bool (decide_eq_false (fun h => h rfl)), hS⟩

set_option maxRecDepth 100000 in
set_option maxHeartbeats 4000000 in
theorem cmp_cmp_i64 {w : World} {R : Kn} {L : List HP}  (hS : St w R (L)) {a b : Int} :
    Fn Try.prog 54 #[.int .i64 a, .int .i64 b] w (fun v w' => v = .int .i64 (cmpI a b) ∧ St w' R L) := by
  have hcc := cmpI_cases a b
  refine Fn.intro (n := 20) Try.func54 rfl rfl rfl ?_
  refine WR.seq ?_
  refine WR.region rfl ?_
  refine S.assignC rfl ?_
  refine WS.done ?_
  refine WR.seq ?_
  refine WR.region rfl ?_
  refine S.moveT rfl ?_
  refine S.call ent57 rfl (cmp_nan_i64 hS ) rfl ?_
  rintro _ w8 ⟨rfl, hS8⟩
  clear hS
  refine S.assignT rfl ?_
  refine WS.done ?_
  refine WR.seq ?_
  refine WR.region rfl ?_
  refine S.moveT rfl ?_
  refine S.call ent57 rfl (cmp_nan_i64 hS8 ) rfl ?_
  rintro _ w10 ⟨rfl, hS10⟩
  clear hS8
  refine S.assignT rfl ?_
  refine WS.done ?_
  refine WR.seq ?_
  refine WR.seq ?_
  refine WR.region rfl ?_
  refine S.moveT rfl ?_
  refine WS.done ?_
  refine WR.condF rfl ?_
  refine WR.skip ?_
  refine WR.seq ?_
  refine WR.seq ?_
  refine WR.region rfl ?_
  refine S.moveT rfl ?_
  refine WS.done ?_
  refine WR.condF rfl ?_
  refine WR.skip ?_
  refine WR.seq ?_
  refine WR.seq ?_
  refine WR.region rfl ?_
  refine S.moveT rfl ?_
  refine S.moveT rfl ?_
  refine S.lss rfl rfl rfl ?_
  refine WS.done ?_
  refine WR.condD rfl (fun c16 => ?_) (fun c16 => ?_)
  ·
    skip
    refine WR.seq ?_
    refine WR.region rfl ?_
    refine S.assignC rfl ?_
    refine WS.done ?_
    refine WR.ret (ret1 rfl rfl ?_)
    exact ⟨congrArg (Value.int .i64) (by omega), hS10⟩
  ·
    skip
    refine WR.skip ?_
    refine WR.seq ?_
    refine WR.seq ?_
    refine WR.region rfl ?_
    refine S.moveT rfl ?_
    refine S.moveT rfl ?_
    refine S.gtr rfl rfl rfl ?_
    refine WS.done ?_
    refine WR.condD rfl (fun c19 => ?_) (fun c19 => ?_)
    ·
      skip
      refine WR.seq ?_
      refine WR.region rfl ?_
      refine S.assignC rfl ?_
      refine WS.done ?_
      refine WR.ret (ret1 rfl rfl ?_)
      exact ⟨congrArg (Value.int .i64) (by omega), hS10⟩
    ·
      skip
      refine WR.skip ?_
      refine WR.seq ?_
      refine WR.region rfl ?_
      refine S.assignC rfl ?_
      refine WS.done ?_
      refine WR.ret (ret1 rfl rfl ?_)
      exact ⟨congrArg (Value.int .i64) (by omega), hS10⟩

set_option maxRecDepth 100000 in
set_option maxHeartbeats 4000000 in
theorem cmp_cmp_u64 {w : World} {R : Kn} {L : List HP}  (hS : St w R (L)) {a b : Int} :
    Fn Try.prog 55 #[.int .u64 a, .int .u64 b] w (fun v w' => v = .int .i64 (cmpI a b) ∧ St w' R L) := by
  have hcc := cmpI_cases a b
  refine Fn.intro (n := 20) Try.func55 rfl rfl rfl ?_
  refine WR.seq ?_
  refine WR.region rfl ?_
  refine S.assignC rfl ?_
  refine WS.done ?_
  refine WR.seq ?_
  refine WR.region rfl ?_
  refine S.moveT rfl ?_
  refine S.call ent58 rfl (cmp_nan_u64 hS ) rfl ?_
  rintro _ w8 ⟨rfl, hS8⟩
  clear hS
  refine S.assignT rfl ?_
  refine WS.done ?_
  refine WR.seq ?_
  refine WR.region rfl ?_
  refine S.moveT rfl ?_
  refine S.call ent58 rfl (cmp_nan_u64 hS8 ) rfl ?_
  rintro _ w10 ⟨rfl, hS10⟩
  clear hS8
  refine S.assignT rfl ?_
  refine WS.done ?_
  refine WR.seq ?_
  refine WR.seq ?_
  refine WR.region rfl ?_
  refine S.moveT rfl ?_
  refine WS.done ?_
  refine WR.condF rfl ?_
  refine WR.skip ?_
  refine WR.seq ?_
  refine WR.seq ?_
  refine WR.region rfl ?_
  refine S.moveT rfl ?_
  refine WS.done ?_
  refine WR.condF rfl ?_
  refine WR.skip ?_
  refine WR.seq ?_
  refine WR.seq ?_
  refine WR.region rfl ?_
  refine S.moveT rfl ?_
  refine S.moveT rfl ?_
  refine S.lss rfl rfl rfl ?_
  refine WS.done ?_
  refine WR.condD rfl (fun c16 => ?_) (fun c16 => ?_)
  ·
    skip
    refine WR.seq ?_
    refine WR.region rfl ?_
    refine S.assignC rfl ?_
    refine WS.done ?_
    refine WR.ret (ret1 rfl rfl ?_)
    exact ⟨congrArg (Value.int .i64) (by omega), hS10⟩
  ·
    skip
    refine WR.skip ?_
    refine WR.seq ?_
    refine WR.seq ?_
    refine WR.region rfl ?_
    refine S.moveT rfl ?_
    refine S.moveT rfl ?_
    refine S.gtr rfl rfl rfl ?_
    refine WS.done ?_
    refine WR.condD rfl (fun c19 => ?_) (fun c19 => ?_)
    ·
      skip
      refine WR.seq ?_
      refine WR.region rfl ?_
      refine S.assignC rfl ?_
      refine WS.done ?_
      refine WR.ret (ret1 rfl rfl ?_)
      exact ⟨congrArg (Value.int .i64) (by omega), hS10⟩
    ·
      skip
      refine WR.skip ?_
      refine WR.seq ?_
      refine WR.region rfl ?_
      refine S.assignC rfl ?_
      refine WS.done ?_
      refine WR.ret (ret1 rfl rfl ?_)
      exact ⟨congrArg (Value.int .i64) (by omega), hS10⟩

set_option maxRecDepth 100000 in
set_option maxHeartbeats 4000000 in
theorem cmp_or {w : World} {R : Kn} {L : List HP}  (hS : St w R (L)) {v0 : Value} {xs : List Int} (h0 : Ro R (encI .i64) 1 v0 xs) (hm : xs.length ≤ 1000000) :
    Fn Try.prog 53 #[v0] w (fun v w' => v = .int .i64 (orI xs) ∧ St w' R L) := by
  obtain ⟨a0, c0, rfl, hl0⟩ := h0.len
  refine Fn.intro (n := 18) Try.func53 rfl rfl rfl ?_
  refine WR.seq ?_
  refine WR.region rfl ?_
  refine S.assignC rfl ?_
  refine WS.done ?_
  refine WR.seq ?_
  refine WR.region rfl ?_
  refine S.assignC rfl ?_
  refine WS.done ?_
  refine WR.seq ?_
  refine WR.seq ?_
  refine WR.region rfl ?_
  refine S.moveT rfl ?_
  refine S.lenSl Try.underlying41 rfl rfl ?_
  refine S.moveC rfl ?_
  refine WS.done ?_
  refine WR.block ?_
  refine WR.loopE (fun rq mm rr wr => ∃ (i : Nat), mm = xs.length - i ∧ (i ≤ xs.length ∧ orI xs = orI (xs.drop i)) ∧ rr 8 = .int .i64 (i : Int) ∧ Agr [3, 6, 7] rr rq ∧ St wr R L) ⟨0, rfl, (by exact ⟨by omega, rfl⟩), rfl, ⟨rfl, rfl, rfl, trivial⟩, hS⟩ ?_
  rintro mm rr w1001 ⟨i, hm1001, ⟨hi, hor⟩, hr1001_8, hA1001, hS1001⟩
  obtain ⟨rr, rfl⟩ := agrBack hA1001
  clear hA1001
  obtain ⟨rr, rfl⟩ := back1 (r := rr) hr1001_8
  clear hr1001_8
  refine WR.seq ?_
  refine WR.region rfl ?_
  refine S.lss rfl rfl rfl ?_
  refine WS.done ?_
  refine WR.seq ?_
  refine WR.condD rfl (fun c9 => ?_) (fun c9 => ?_)
  ·
    skip
    refine WR.skip ?_
    refine WR.seq ?_
    refine WR.block ?_
    refine WR.seq ?_
    refine WR.region rfl ?_
    refine S.indexRo h0 Try.underlying41 ti3 rfl rfl (by omega) rfl ?_
    intro ad10 u10 hu10 hl10 hc10
    refine S.loadRo hS1001 hc10 rfl Try.underlying3 rfl rfl rfl ?_
    refine S.assignT rfl ?_
    refine WS.done ?_
    refine WR.seq ?_
    refine WR.region rfl ?_
    refine S.moveT rfl ?_
    refine S.moveT rfl ?_
    refine S.neq rfl rfl rfl ?_
    refine WS.done ?_
    refine WR.condD rfl (fun c14 => ?_) (fun c14 => ?_)
    ·
      skip
      refine WR.seq ?_
      refine WR.region rfl ?_
      refine S.moveT rfl ?_
      refine S.assignT rfl ?_
      refine WS.done ?_
      refine WR.ret (ret1 rfl rfl ?_)
      exact ⟨congrArg (Value.int .i64) (by rw [hor, or_drop (getI hu10), if_pos (by omega)]), hS1001⟩
    ·
      skip
      refine WR.skip ?_
      refine WR.region rfl ?_
      first
        | refine S.addN rfl rfl rfl (by omega) ?_
        | refine S.add rfl rfl rfl ?_
      refine S.moveT rfl ?_
      refine WS.done ?_
      exact ⟨_, (by omega), ⟨i + 1, rfl, (by exact ⟨by omega, by rw [hor, or_drop (getI hu10), if_neg (by omega)]⟩), rfl, ⟨rfl, rfl, rfl, trivial⟩, hS1001⟩⟩
  ·
    skip
    refine WR.exit ?_
    refine WR.seq ?_
    refine WR.region rfl ?_
    refine S.moveT rfl ?_
    refine S.assignT rfl ?_
    refine WS.done ?_
    refine WR.ret (ret1 rfl rfl ?_)
    exact ⟨congrArg (Value.int .i64) (by rw [hor, List.drop_eq_nil_of_le (by omega)]; rfl), hS1001⟩

set_option maxRecDepth 100000 in
set_option maxHeartbeats 4000000 in
theorem w_of {w : World} {R : Kn} {L : List HP}  (hS : St w R (L)) {a : Int} (ha : fits a) :
    Fn Try.prog 22 #[.int .i64 a] w (fun v w' => v = .agg #[.int .i64 (wh (a)), .int .u64 (wl (a))] ∧ St w' R L) := by
  have hd := w_def a
  unfold fits at ha
  refine Fn.intro (n := 8) Try.func22 rfl rfl rfl ?_
  refine WR.seq ?_
  refine WR.region rfl ?_
  refine S.alloc hS ti40 rfl rfl ?_
  intro b2 w2 hS2; clear hS
  refine WS.done ?_
  refine WR.seq ?_
  refine WR.region rfl ?_
  refine S.moveT rfl ?_
  refine S.shrC (q := 9223372036854775808) rfl rfl rfl (by decide) rfl rfl ?_
  refine S.moveT rfl ?_
  refine S.conv Try.underlying2 Try.underlying38 rfl rfl ?_
  refine S.as (d := 6) rfl (congrArg (Value.int .u64) (wrap_u64m _)) ?_
  refine S.buildStruct [.int _ _, .int _ _] [(0, 1), (1, 1)] Try.underlying40 ti40 rfl (by kernel_rfl) rfl rfl rfl rfl rfl rfl ?_
  refine S.storeB (i := 0) hS2 rfl ti40 rfl rfl rfl rfl rfl rfl rfl rfl ?_
  intro w2001 hS2001; clear hS2
  refine WS.done ?_
  refine WR.ret (retC rfl rfl (run_loadBA (i := 0) hS2001 rfl Try.underlying40 rfl ti40 rfl rfl) ?_)
  exact ⟨tupw (by omega) (by omega), hS2001.drop⟩

set_option maxRecDepth 100000 in
set_option maxHeartbeats 4000000 in
theorem w_around {w : World} {R : Kn} {L : List HP}  (hS : St w R (L)) {ah al bh bl c : Int} (ha : fits ah) (hal : (0 ≤ al ∧ al < 18446744073709551616)) (hb : fits bh) (hbl : (0 ≤ bl ∧ bl < 18446744073709551616)) (hc : 0 ≤ c ∧ c ≤ 1) :
    Fn Try.prog 52 #[.agg #[.int .i64 (ah), .int .u64 (al)], .agg #[.int .i64 (bh), .int .u64 (bl)], .int .u64 c] w (fun v w' => v = .agg #[.int .i64 (wh ((ah * 18446744073709551616 + al) + (bh * 18446744073709551616 + bl) + c)), .int .u64 (wl ((ah * 18446744073709551616 + al) + (bh * 18446744073709551616 + bl) + c))] ∧ St w' R L) := by
  have hah := id ha
  unfold fits at hah
  have hbh := id hb
  unfold fits at hbh
  refine Fn.intro (n := 28) Try.func52 rfl rfl rfl ?_
  refine WR.seq ?_
  refine WR.region rfl ?_
  refine S.box hS rfl rfl rfl ?_
  intro b3 w3 hS3; clear hS
  refine S.box hS3 rfl rfl rfl ?_
  intro b4 w4 hS4; clear hS3
  refine S.alloc hS4 ti40 rfl rfl ?_
  intro b6 w6 hS6; clear hS4
  refine WS.done ?_
  refine WR.seq ?_
  refine WR.region rfl ?_
  refine S.fieldB Try.underlying40 rfl ti38 rfl rfl rfl rfl ?_
  refine S.loadB (i := 2) hS6 rfl Try.underlying38 rfl rfl rfl rfl ?_
  refine S.fieldB Try.underlying40 rfl ti38 rfl rfl rfl rfl ?_
  refine S.loadB (i := 1) hS6 rfl Try.underlying38 rfl rfl rfl rfl ?_
  refine S.moveT rfl ?_
  refine S.callX rfl (x_add64 (by omega) (by omega) (by omega)) rfl ?_
  refine S.moveT rfl ?_
  refine S.extract rfl rfl rfl ?_
  refine S.extract rfl rfl rfl ?_
  refine S.assignT rfl ?_
  refine S.assignT rfl ?_
  refine WS.done ?_
  refine WR.seq ?_
  refine WR.region rfl ?_
  refine S.fieldB Try.underlying40 rfl ti2 rfl rfl rfl rfl ?_
  refine S.loadB (i := 2) hS6 rfl Try.underlying2 rfl rfl rfl rfl ?_
  refine S.fieldB Try.underlying40 rfl ti2 rfl rfl rfl rfl ?_
  refine S.loadB (i := 1) hS6 rfl Try.underlying2 rfl rfl rfl rfl ?_
  refine S.add rfl rfl rfl ?_
  refine S.moveT rfl ?_
  first
    | refine S.convN Try.underlying38 Try.underlying2 rfl rfl (wrap_i64 (by omega) (by omega)) ?_
    | refine S.conv Try.underlying38 Try.underlying2 rfl rfl ?_
  refine S.add rfl rfl rfl ?_
  refine S.moveT rfl ?_
  refine S.buildStruct [.int _ _, .int _ _] [(0, 1), (1, 1)] Try.underlying40 ti40 rfl (by kernel_rfl) rfl rfl rfl rfl rfl rfl ?_
  refine S.storeB (i := 0) hS6 rfl ti40 rfl rfl rfl rfl rfl rfl rfl rfl ?_
  intro w2001 hS2001; clear hS6
  refine WS.done ?_
  refine WR.ret (retC rfl rfl (run_loadBA (i := 0) hS2001 rfl Try.underlying40 rfl ti40 rfl rfl) ?_)
  exact ⟨tupw (around_hi hal hbl hc _ _ rfl rfl) (around_lo), hS2001.drop.drop.drop⟩

set_option maxRecDepth 100000 in
set_option maxHeartbeats 4000000 in
theorem w_cmp {w : World} {R : Kn} {L : List HP}  (hS : St w R (L)) {ah al bh bl : Int} (hal : (0 ≤ al ∧ al < 18446744073709551616)) (hbl : (0 ≤ bl ∧ bl < 18446744073709551616)) :
    Fn Try.prog 42 #[.agg #[.int .i64 (ah), .int .u64 (al)], .agg #[.int .i64 (bh), .int .u64 (bl)]] w (fun v w' => v = .int .i64 (cmpI (ah * 18446744073709551616 + al) (bh * 18446744073709551616 + bl)) ∧ St w' R L) := by
  have hc1 := cmpI_cases ah bh
  have hc2 := cmpI_cases al bl
  have hc3 := cmpI_cases (ah * 18446744073709551616 + al) (bh * 18446744073709551616 + bl)
  have hor := or_two (cmpI ah bh) (cmpI al bl)
  refine Fn.intro (n := 17) Try.func42 rfl rfl rfl ?_
  refine WR.seq ?_
  refine WR.region rfl ?_
  refine S.box hS rfl rfl rfl ?_
  intro b2 w2 hS2; clear hS
  refine S.box hS2 rfl rfl rfl ?_
  intro b3 w3 hS3; clear hS2
  refine S.assignC rfl ?_
  refine WS.done ?_
  refine WR.seq ?_
  refine WR.regionW (fun j => false) 13 rfl mixed hS3 ?_
  intro w6001 hS6001; clear hS3; have hC := hS6001
  refine WA.take (fuel := 12) 0 rfl (by kernel_rfl) (by kernel_rfl) (by kernel_rfl) (by kernel_rfl) rfl rfl hC ?_
  refine Q.fieldB Try.underlying40 rfl ti2 rfl rfl rfl rfl ?_
  refine WQ.done ?_
  refine WA.take (fuel := 11) 1 rfl (by kernel_rfl) (by kernel_rfl) (by kernel_rfl) (by kernel_rfl) rfl rfl hC ?_
  refine Q.loadB (i := 1) rfl Try.underlying2 rfl rfl rfl rfl ?_
  refine WQ.done ?_
  refine WA.take (fuel := 10) 2 rfl (by kernel_rfl) (by kernel_rfl) (by kernel_rfl) (by kernel_rfl) rfl rfl hC ?_
  refine Q.fieldB Try.underlying40 rfl ti2 rfl rfl rfl rfl ?_
  refine WQ.done ?_
  refine WA.take (fuel := 9) 3 rfl (by kernel_rfl) (by kernel_rfl) (by kernel_rfl) (by kernel_rfl) rfl rfl hC ?_
  refine Q.loadB (i := 0) rfl Try.underlying2 rfl rfl rfl rfl ?_
  refine WQ.done ?_
  refine WA.take (fuel := 8) 5 rfl (by kernel_rfl) (by kernel_rfl) (by kernel_rfl) (by kernel_rfl) rfl rfl hC ?_
  refine Q.fieldB Try.underlying40 rfl ti38 rfl rfl rfl rfl ?_
  refine WQ.done ?_
  refine WA.take (fuel := 7) 6 rfl (by kernel_rfl) (by kernel_rfl) (by kernel_rfl) (by kernel_rfl) rfl rfl hC ?_
  refine Q.loadB (i := 1) rfl Try.underlying38 rfl rfl rfl rfl ?_
  refine WQ.done ?_
  refine WA.take (fuel := 6) 7 rfl (by kernel_rfl) (by kernel_rfl) (by kernel_rfl) (by kernel_rfl) rfl rfl hC ?_
  refine Q.fieldB Try.underlying40 rfl ti38 rfl rfl rfl rfl ?_
  refine WQ.done ?_
  refine WA.take (fuel := 5) 8 rfl (by kernel_rfl) (by kernel_rfl) (by kernel_rfl) (by kernel_rfl) rfl rfl hC ?_
  refine Q.loadB (i := 0) rfl Try.underlying38 rfl rfl rfl rfl ?_
  refine WQ.done ?_
  refine WA.one (fuel := 4) 4 rfl (by kernel_rfl) rfl ?_
  refine S.call ent54 rfl (cmp_cmp_i64 hS6001 ) rfl ?_
  rintro _ w9 ⟨rfl, hS9⟩
  clear hS6001
  refine WS.done ⟨fun _ => hS9, ?_⟩
  replace hC := hS9
  refine WA.one (fuel := 3) 9 rfl (by kernel_rfl) rfl ?_
  refine S.call ent55 rfl (cmp_cmp_u64 hS9 ) rfl ?_
  rintro _ w14 ⟨rfl, hS14⟩
  clear hS9
  refine WS.done ⟨fun _ => hS14, ?_⟩
  replace hC := hS14
  refine WA.one (fuel := 2) 10 rfl (by kernel_rfl) rfl ?_
  first
    | refine S.buildRow (vs := [.int _ _, .int _ _]) hS14 Try.underlying41 ti3 rfl rfl rfl rfl rfl rfl rfl ?_
    | refine S.buildRow hS14 Try.underlying41 ti3 rfl rfl rfl rfl rfl rfl rfl ?_
  intro b15 w15 hS15; clear hS14
  obtain ⟨R15, hR15, hro15, hSf15⟩ := hS15.keepRow (enc := encI .i64) (n := 1) [cmpI ah bh, cmpI al bl] rfl (fun _ _ => rfl)
  refine WS.done ⟨fun _ => (hSf15.weak hR15), ?_⟩
  replace hC := (hSf15.weak hR15)
  refine WA.one (fuel := 1) 11 rfl (by kernel_rfl) rfl ?_
  refine S.call ent53 rfl (cmp_or hSf15 (by exact hro15) (by simp)) rfl ?_
  rintro _ w16 ⟨rfl, hS16⟩
  clear hSf15
  refine WS.done ⟨fun _ => (hS16.weak hR15), ?_⟩
  replace hC := (hS16.weak hR15)
  refine WA.take (fuel := 0) 12 rfl (by kernel_rfl) (by kernel_rfl) (by kernel_rfl) (by kernel_rfl) rfl rfl hC ?_
  refine Q.assignT rfl ?_
  refine WQ.done ?_
  refine WA.done (by kernel_rfl) ?_
  clear hC
  refine WR.ret (ret1 rfl rfl ?_)
  exact ⟨congrArg (Value.int .i64) (by omega), hS16.drop.drop.weak hR15⟩

set_option maxRecDepth 100000 in
set_option maxHeartbeats 4000000 in
theorem w_sum {w : World} {R : Kn} {L : List HP}  (hS : St w R (L)) {v0 : Value} {xs : List Int} (h0 : Ro R (encI .i64) 1 v0 xs) (hf : ∀ x ∈ xs, fits x) (hm : xs.length ≤ 100000000) :
    Fn Try.prog 41 #[v0] w (fun v w' => v = .agg #[.int .i64 (wh (xs.sum)), .int .u64 (wl (xs.sum))] ∧ St w' R L) := by
  obtain ⟨a0, c0, rfl, hl0⟩ := h0.len
  refine Fn.intro (n := 18) Try.func41 rfl rfl rfl ?_
  refine WR.seq ?_
  refine WR.region rfl ?_
  refine S.alloc hS ti40 rfl rfl ?_
  intro b2 w2 hS2; clear hS
  refine WS.done ?_
  refine WR.seq ?_
  refine WR.region rfl ?_
  refine S.alloc hS2 ti40 rfl rfl ?_
  intro b3 w3 hS3; clear hS2
  refine WS.done ?_
  refine WR.seq ?_
  refine WR.seq ?_
  refine WR.region rfl ?_
  refine S.moveT rfl ?_
  refine S.lenSl Try.underlying22 rfl rfl ?_
  refine S.moveC rfl ?_
  refine WS.done ?_
  refine WR.block ?_
  refine WR.loopE (fun rq mm rr wr => ∃ (i : Nat), mm = xs.length - i ∧ (i ≤ xs.length) ∧ rr 8 = .int .i64 (i : Int) ∧ Agr [2, 3, 6, 7] rr rq ∧ St wr R (blk b3 (.cells (#[.int .i64 (wh (xs.take i).sum), .int .u64 (wl (xs.take i).sum)]) 40 (0, 0)) :: blk b2 (.cells (#[.int .i64 0, .int .u64 0]) 40 (0, 0)) :: L)) ⟨0, rfl, (by omega), rfl, ⟨rfl, rfl, rfl, rfl, trivial⟩, hS3⟩ ?_
  rintro mm rr w1001 ⟨i, hm1001, hi, hr1001_8, hA1001, hS1001⟩
  obtain ⟨rr, rfl⟩ := agrBack hA1001
  clear hA1001
  obtain ⟨rr, rfl⟩ := back1 (r := rr) hr1001_8
  clear hr1001_8
  refine WR.seq ?_
  refine WR.region rfl ?_
  refine S.lss rfl rfl rfl ?_
  refine WS.done ?_
  refine WR.seq ?_
  refine WR.condD rfl (fun c9 => ?_) (fun c9 => ?_)
  ·
    skip
    refine WR.skip ?_
    refine WR.seq ?_
    refine WR.block ?_
    refine WR.seq ?_
    refine WR.region rfl ?_
    refine S.indexRo h0 Try.underlying22 ti2 rfl rfl (by omega) rfl ?_
    intro ad10 u10 hu10 hl10 hc10
    refine S.loadRo hS1001 hc10 rfl Try.underlying2 rfl rfl rfl ?_
    refine S.assignT rfl ?_
    have hu := hf u10 (List.mem_of_getElem? hu10)
    have hrg := w_range ((xs.take i).sum)
    have hru := w_range u10
    have hag := w_two (xs.take i).sum u10
    refine WS.done ?_
    refine WR.regionW (fun j => Nat.beq j 4) 5 rfl mixed hS1001 ?_
    intro w6001 hS6001; clear hS1001; have hC := hS6001
    refine WA.take (fuel := 4) 0 rfl (by kernel_rfl) (by kernel_rfl) (by kernel_rfl) (by kernel_rfl) rfl rfl hC ?_
    refine Q.loadBA (i := 0) rfl Try.underlying40 rfl ti40 rfl rfl rfl rfl ?_
    refine WQ.done ?_
    refine WA.take (fuel := 3) 1 rfl (by kernel_rfl) (by kernel_rfl) (by kernel_rfl) (by kernel_rfl) rfl rfl hC ?_
    refine Q.moveT rfl ?_
    refine WQ.done ?_
    refine WA.one (fuel := 2) 2 rfl (by kernel_rfl) rfl ?_
    refine S.call ent22 rfl (w_of hS6001 (by exact hu)) rfl ?_
    rintro _ w14 ⟨rfl, hS14⟩
    clear hS6001
    refine WS.done ⟨fun _ => hS14, ?_⟩
    replace hC := hS14
    refine WA.one (fuel := 1) 3 rfl (by kernel_rfl) rfl ?_
    refine S.call ent52 rfl (w_around hS14 (by exact w_fits _) (by exact hrg.2) (by exact w_fits _) (by exact hru.2) (by decide)) rfl ?_
    rintro _ w15 ⟨rfl, hS15⟩
    clear hS14
    refine WS.done ⟨fun _ => hS15, ?_⟩
    replace hC := hS15
    refine WA.one (fuel := 0) 4 rfl (by kernel_rfl) rfl ?_
    refine S.storeB (i := 0) hS15 rfl ti40 rfl rfl rfl rfl rfl rfl rfl rfl ?_
    intro w2002 hS2002; clear hS15
    refine WS.done ⟨fun h => absurd h (by decide), ?_⟩
    refine WA.done (by kernel_rfl) ?_
    clear hC
    refine WR.region rfl ?_
    first
      | refine S.addN rfl rfl rfl (by omega) ?_
      | refine S.add rfl rfl rfl ?_
    refine S.moveT rfl ?_
    refine WS.done ?_
    exact ⟨_, (by omega), ⟨i + 1, rfl, (by omega), rfl, ⟨rfl, rfl, rfl, rfl, trivial⟩, (by rw [sum_succ hu10, ← hag.1, ← hag.2]; exact hS2002)⟩⟩
  ·
    skip
    refine WR.exit ?_
    refine WR.seq ?_
    refine WR.region rfl ?_
    refine S.loadBA (i := 0) hS1001 rfl Try.underlying40 rfl ti40 rfl rfl rfl rfl ?_
    refine S.storeB (i := 1) hS1001 rfl ti40 rfl rfl rfl rfl rfl rfl rfl rfl ?_
    intro w2003 hS2003; clear hS1001
    refine WS.done ?_
    refine WR.ret (retC rfl rfl (run_loadBA (i := 1) hS2003 rfl Try.underlying40 rfl ti40 rfl rfl) ?_)
    have hsm : (xs.take i).sum = xs.sum := by rw [List.take_of_length_le (by omega)]
    exact ⟨tupw (congrArg wh hsm) (congrArg wl hsm), hS2003.drop.drop⟩


end Go.Proofs.Ytmmdbincgianaaa.B

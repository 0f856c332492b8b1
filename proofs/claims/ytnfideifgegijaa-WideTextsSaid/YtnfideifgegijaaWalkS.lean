import Derived.Test.YtnfideifgegijaaTypes
namespace Go.Proofs.Ytnfideifgegijaa.B
open Go.Proofs Go.RowKit
set_option linter.unusedVariables false
set_option linter.unusedSimpArgs false
set_option maxRecDepth 100000 in
set_option maxHeartbeats 4000000 in
theorem s_mul64 {w : World} {R : Kn} {L : List HP}  (hS : St w R (L)) {a b : Int} (ha : 0 ≤ a ∧ a < 18446744073709551616) (hb : 0 ≤ b ∧ b < 18446744073709551616) :
    Fn Try.prog 47 #[.int .u64 a, .int .u64 b] w (fun v w' => v = .tuple #[.int .u64 (a * b / 18446744073709551616), .int .u64 (a * b % 18446744073709551616)] ∧ St w' R L) := by
  have hA := prod_bound (a / 4294967296) (b / 4294967296) (by omega) (by omega) (by omega) (by omega)
  have hB := prod_bound (a / 4294967296) (b % 4294967296) (by omega) (by omega) (by omega) (by omega)
  have hC := prod_bound (a % 4294967296) (b % 4294967296) (by omega) (by omega) (by omega) (by omega)
  have hD := prod_bound (a % 4294967296) (b / 4294967296) (by omega) (by omega) (by omega) (by omega)
  refine Fn.intro (n := 51) Try.func47 rfl rfl rfl ?_
  refine WR.seq ?_
  refine WR.region rfl ?_
  refine S.assignC rfl ?_
  refine S.assignC rfl ?_
  refine WS.done ?_
  refine WR.seq ?_
  refine WR.region rfl ?_
  refine S.moveT rfl ?_
  refine S.andLow rfl rfl rfl (by omega) ?_
  refine S.assignT rfl ?_
  refine WS.done ?_
  refine WR.seq ?_
  refine WR.region rfl ?_
  refine S.moveT rfl ?_
  refine S.shrC (q := 4294967296) rfl rfl rfl (by decide) rfl rfl ?_
  refine S.assignT rfl ?_
  refine WS.done ?_
  refine WR.seq ?_
  refine WR.region rfl ?_
  refine S.moveT rfl ?_
  refine S.andLow rfl rfl rfl (by omega) ?_
  refine S.assignT rfl ?_
  refine WS.done ?_
  refine WR.seq ?_
  refine WR.region rfl ?_
  refine S.moveT rfl ?_
  refine S.shrC (q := 4294967296) rfl rfl rfl (by decide) rfl rfl ?_
  refine S.assignT rfl ?_
  refine WS.done ?_
  refine WR.seq ?_
  refine WR.region rfl ?_
  refine S.moveT rfl ?_
  refine S.moveT rfl ?_
  first
    | refine S.mulU rfl rfl rfl (by omega) ?_
    | refine S.mul rfl rfl rfl ?_
  refine S.assignT rfl ?_
  refine WS.done ?_
  refine WR.seq ?_
  refine WR.region rfl ?_
  refine S.moveT rfl ?_
  refine S.moveT rfl ?_
  first
    | refine S.mulU rfl rfl rfl (by omega) ?_
    | refine S.mul rfl rfl rfl ?_
  refine S.moveT rfl ?_
  refine S.shrC (q := 4294967296) rfl rfl rfl (by decide) rfl rfl ?_
  first
    | refine S.addU rfl rfl rfl (by omega) ?_
    | refine S.add rfl rfl rfl ?_
  refine S.assignT rfl ?_
  refine WS.done ?_
  refine WR.seq ?_
  refine WR.region rfl ?_
  refine S.moveT rfl ?_
  refine S.andLow rfl rfl rfl (by omega) ?_
  refine S.assignT rfl ?_
  refine WS.done ?_
  refine WR.seq ?_
  refine WR.region rfl ?_
  refine S.moveT rfl ?_
  refine S.shrC (q := 4294967296) rfl rfl rfl (by decide) rfl rfl ?_
  refine S.assignT rfl ?_
  refine WS.done ?_
  refine WR.seq ?_
  refine WR.region rfl ?_
  refine S.moveT rfl ?_
  refine S.moveT rfl ?_
  refine S.moveT rfl ?_
  first
    | refine S.mulU rfl rfl rfl (by omega) ?_
    | refine S.mul rfl rfl rfl ?_
  first
    | refine S.addU rfl rfl rfl (by omega) ?_
    | refine S.add rfl rfl rfl ?_
  refine S.assignT rfl ?_
  refine WS.done ?_
  refine WR.seq ?_
  refine WR.region rfl ?_
  refine S.moveT rfl ?_
  refine S.moveT rfl ?_
  first
    | refine S.mulU rfl rfl rfl (by omega) ?_
    | refine S.mul rfl rfl rfl ?_
  refine S.moveT rfl ?_
  first
    | refine S.addU rfl rfl rfl (by omega) ?_
    | refine S.add rfl rfl rfl ?_
  refine S.moveT rfl ?_
  refine S.shrC (q := 4294967296) rfl rfl rfl (by decide) rfl rfl ?_
  first
    | refine S.addU rfl rfl rfl (by omega) ?_
    | refine S.add rfl rfl rfl ?_
  refine S.assignT rfl ?_
  refine WS.done ?_
  refine WR.seq ?_
  refine WR.region rfl ?_
  refine S.moveT rfl ?_
  refine S.moveT rfl ?_
  refine S.mul rfl rfl rfl ?_
  refine S.assignT rfl ?_
  refine WS.done ?_
  refine WR.ret (ret2 rfl rfl rfl ?_)
  exact ⟨tup2 (congrArg (Value.int .u64) (mul64_hi ha hb)) (congrArg (Value.int .u64) (wrap_u64m _)), hS⟩

set_option maxRecDepth 100000 in
set_option maxHeartbeats 4000000 in
theorem s_len64 {w : World} {R : Kn} {L : List HP}  (hS : St w R (L)) {a : Int} (ha : 0 ≤ a ∧ a < 18446744073709551616) :
    Fn Try.prog 62 #[.int .u64 a] w (fun v w' => v = .int .i64 (bitLen a.toNat) ∧ St w' R L) := by
  refine Fn.intro (n := 25) Try.func62 rfl rfl rfl ?_
  refine WR.seq ?_
  refine WR.region rfl ?_
  refine S.assignC rfl ?_
  refine WS.done ?_
  refine WR.seq ?_
  refine WR.seq ?_
  refine WR.region rfl ?_
  refine S.moveT rfl ?_
  refine S.geq rfl rfl rfl ?_
  refine WS.done ?_
  refine WR.condD rfl (fun c4 => ?_) (fun c4 => ?_)
  ·
    skip
    refine WR.seq ?_
    refine WR.region rfl ?_
    refine S.moveT rfl ?_
    refine S.shrC (q := 4294967296) rfl rfl rfl (by decide) rfl rfl ?_
    refine S.assignT rfl ?_
    refine WS.done ?_
    refine WR.region rfl ?_
    refine S.assignC rfl ?_
    refine WS.done ?_
    refine WR.seq ?_
    refine WR.seq ?_
    refine WR.region rfl ?_
    refine S.moveT rfl ?_
    refine S.geq rfl rfl rfl ?_
    refine WS.done ?_
    refine WR.condD rfl (fun c8 => ?_) (fun c8 => ?_)
    ·
      skip
      refine WR.seq ?_
      refine WR.region rfl ?_
      refine S.moveT rfl ?_
      refine S.shrC (q := 65536) rfl rfl rfl (by decide) rfl rfl ?_
      refine S.assignT rfl ?_
      refine WS.done ?_
      refine WR.region rfl ?_
      refine S.moveT rfl ?_
      first
        | refine S.addN rfl rfl rfl (by omega) ?_
        | refine S.add rfl rfl rfl ?_
      refine S.assignT rfl ?_
      refine WS.done ?_
      refine WR.seq ?_
      refine WR.seq ?_
      refine WR.region rfl ?_
      refine S.moveT rfl ?_
      refine S.geq rfl rfl rfl ?_
      refine WS.done ?_
      refine WR.condD rfl (fun c14 => ?_) (fun c14 => ?_)
      ·
        skip
        refine WR.seq ?_
        refine WR.region rfl ?_
        refine S.moveT rfl ?_
        refine S.shrC (q := 256) rfl rfl rfl (by decide) rfl rfl ?_
        refine S.assignT rfl ?_
        refine WS.done ?_
        refine WR.region rfl ?_
        refine S.moveT rfl ?_
        first
          | refine S.addN rfl rfl rfl (by omega) ?_
          | refine S.add rfl rfl rfl ?_
        refine S.assignT rfl ?_
        refine WS.done ?_
        refine WR.seq ?_
        refine WR.region rfl ?_
        refine S.moveT rfl ?_
        refine S.moveT rfl ?_
        first
          | refine S.convN Try.underlying22 Try.underlying5 rfl rfl (wrap_u8 (by omega) (by omega)) ?_
          | refine S.conv Try.underlying22 Try.underlying5 rfl rfl ?_
        refine S.indexLen Try.underlying9 rfl rfl (by omega) (by omega) rfl (by decide +kernel) rfl ?_
        intro yy hyy hy8
        first
          | refine S.convN Try.underlying5 Try.underlying3 rfl rfl (wrap_i64 (by omega) (by omega)) ?_
          | refine S.conv Try.underlying5 Try.underlying3 rfl rfl ?_
        first
          | refine S.addN rfl rfl rfl (by omega) ?_
          | refine S.add rfl rfl rfl ?_
        refine S.assignT rfl ?_
        refine WS.done ?_
        refine WR.ret (ret1 rfl rfl ?_)
        exact ⟨congrArg (Value.int .i64) (by first | exact len64_fin 0 1 rfl yy hyy (by omega) (.inl rfl) (by omega) | exact len64_fin 8 256 rfl yy hyy (by omega) (.inr (by omega)) (by omega) | exact len64_fin 16 65536 rfl yy hyy (by omega) (.inr (by omega)) (by omega) | exact len64_fin 24 16777216 rfl yy hyy (by omega) (.inr (by omega)) (by omega) | exact len64_fin 32 4294967296 rfl yy hyy (by omega) (.inr (by omega)) (by omega) | exact len64_fin 40 1099511627776 rfl yy hyy (by omega) (.inr (by omega)) (by omega) | exact len64_fin 48 281474976710656 rfl yy hyy (by omega) (.inr (by omega)) (by omega) | exact len64_fin 56 72057594037927936 rfl yy hyy (by omega) (.inr (by omega)) (by omega)), hS⟩
      ·
        skip
        refine WR.skip ?_
        refine WR.seq ?_
        refine WR.region rfl ?_
        refine S.moveT rfl ?_
        refine S.moveT rfl ?_
        first
          | refine S.convN Try.underlying22 Try.underlying5 rfl rfl (wrap_u8 (by omega) (by omega)) ?_
          | refine S.conv Try.underlying22 Try.underlying5 rfl rfl ?_
        refine S.indexLen Try.underlying9 rfl rfl (by omega) (by omega) rfl (by decide +kernel) rfl ?_
        intro yy hyy hy8
        first
          | refine S.convN Try.underlying5 Try.underlying3 rfl rfl (wrap_i64 (by omega) (by omega)) ?_
          | refine S.conv Try.underlying5 Try.underlying3 rfl rfl ?_
        first
          | refine S.addN rfl rfl rfl (by omega) ?_
          | refine S.add rfl rfl rfl ?_
        refine S.assignT rfl ?_
        refine WS.done ?_
        refine WR.ret (ret1 rfl rfl ?_)
        exact ⟨congrArg (Value.int .i64) (by first | exact len64_fin 0 1 rfl yy hyy (by omega) (.inl rfl) (by omega) | exact len64_fin 8 256 rfl yy hyy (by omega) (.inr (by omega)) (by omega) | exact len64_fin 16 65536 rfl yy hyy (by omega) (.inr (by omega)) (by omega) | exact len64_fin 24 16777216 rfl yy hyy (by omega) (.inr (by omega)) (by omega) | exact len64_fin 32 4294967296 rfl yy hyy (by omega) (.inr (by omega)) (by omega) | exact len64_fin 40 1099511627776 rfl yy hyy (by omega) (.inr (by omega)) (by omega) | exact len64_fin 48 281474976710656 rfl yy hyy (by omega) (.inr (by omega)) (by omega) | exact len64_fin 56 72057594037927936 rfl yy hyy (by omega) (.inr (by omega)) (by omega)), hS⟩
    ·
      skip
      refine WR.skip ?_
      refine WR.seq ?_
      refine WR.seq ?_
      refine WR.region rfl ?_
      refine S.moveT rfl ?_
      refine S.geq rfl rfl rfl ?_
      refine WS.done ?_
      refine WR.condD rfl (fun c14 => ?_) (fun c14 => ?_)
      ·
        skip
        refine WR.seq ?_
        refine WR.region rfl ?_
        refine S.moveT rfl ?_
        refine S.shrC (q := 256) rfl rfl rfl (by decide) rfl rfl ?_
        refine S.assignT rfl ?_
        refine WS.done ?_
        refine WR.region rfl ?_
        refine S.moveT rfl ?_
        first
          | refine S.addN rfl rfl rfl (by omega) ?_
          | refine S.add rfl rfl rfl ?_
        refine S.assignT rfl ?_
        refine WS.done ?_
        refine WR.seq ?_
        refine WR.region rfl ?_
        refine S.moveT rfl ?_
        refine S.moveT rfl ?_
        first
          | refine S.convN Try.underlying22 Try.underlying5 rfl rfl (wrap_u8 (by omega) (by omega)) ?_
          | refine S.conv Try.underlying22 Try.underlying5 rfl rfl ?_
        refine S.indexLen Try.underlying9 rfl rfl (by omega) (by omega) rfl (by decide +kernel) rfl ?_
        intro yy hyy hy8
        first
          | refine S.convN Try.underlying5 Try.underlying3 rfl rfl (wrap_i64 (by omega) (by omega)) ?_
          | refine S.conv Try.underlying5 Try.underlying3 rfl rfl ?_
        first
          | refine S.addN rfl rfl rfl (by omega) ?_
          | refine S.add rfl rfl rfl ?_
        refine S.assignT rfl ?_
        refine WS.done ?_
        refine WR.ret (ret1 rfl rfl ?_)
        exact ⟨congrArg (Value.int .i64) (by first | exact len64_fin 0 1 rfl yy hyy (by omega) (.inl rfl) (by omega) | exact len64_fin 8 256 rfl yy hyy (by omega) (.inr (by omega)) (by omega) | exact len64_fin 16 65536 rfl yy hyy (by omega) (.inr (by omega)) (by omega) | exact len64_fin 24 16777216 rfl yy hyy (by omega) (.inr (by omega)) (by omega) | exact len64_fin 32 4294967296 rfl yy hyy (by omega) (.inr (by omega)) (by omega) | exact len64_fin 40 1099511627776 rfl yy hyy (by omega) (.inr (by omega)) (by omega) | exact len64_fin 48 281474976710656 rfl yy hyy (by omega) (.inr (by omega)) (by omega) | exact len64_fin 56 72057594037927936 rfl yy hyy (by omega) (.inr (by omega)) (by omega)), hS⟩
      ·
        skip
        refine WR.skip ?_
        refine WR.seq ?_
        refine WR.region rfl ?_
        refine S.moveT rfl ?_
        refine S.moveT rfl ?_
        first
          | refine S.convN Try.underlying22 Try.underlying5 rfl rfl (wrap_u8 (by omega) (by omega)) ?_
          | refine S.conv Try.underlying22 Try.underlying5 rfl rfl ?_
        refine S.indexLen Try.underlying9 rfl rfl (by omega) (by omega) rfl (by decide +kernel) rfl ?_
        intro yy hyy hy8
        first
          | refine S.convN Try.underlying5 Try.underlying3 rfl rfl (wrap_i64 (by omega) (by omega)) ?_
          | refine S.conv Try.underlying5 Try.underlying3 rfl rfl ?_
        first
          | refine S.addN rfl rfl rfl (by omega) ?_
          | refine S.add rfl rfl rfl ?_
        refine S.assignT rfl ?_
        refine WS.done ?_
        refine WR.ret (ret1 rfl rfl ?_)
        exact ⟨congrArg (Value.int .i64) (by first | exact len64_fin 0 1 rfl yy hyy (by omega) (.inl rfl) (by omega) | exact len64_fin 8 256 rfl yy hyy (by omega) (.inr (by omega)) (by omega) | exact len64_fin 16 65536 rfl yy hyy (by omega) (.inr (by omega)) (by omega) | exact len64_fin 24 16777216 rfl yy hyy (by omega) (.inr (by omega)) (by omega) | exact len64_fin 32 4294967296 rfl yy hyy (by omega) (.inr (by omega)) (by omega) | exact len64_fin 40 1099511627776 rfl yy hyy (by omega) (.inr (by omega)) (by omega) | exact len64_fin 48 281474976710656 rfl yy hyy (by omega) (.inr (by omega)) (by omega) | exact len64_fin 56 72057594037927936 rfl yy hyy (by omega) (.inr (by omega)) (by omega)), hS⟩
  ·
    skip
    refine WR.skip ?_
    refine WR.seq ?_
    refine WR.seq ?_
    refine WR.region rfl ?_
    refine S.moveT rfl ?_
    refine S.geq rfl rfl rfl ?_
    refine WS.done ?_
    refine WR.condD rfl (fun c8 => ?_) (fun c8 => ?_)
    ·
      skip
      refine WR.seq ?_
      refine WR.region rfl ?_
      refine S.moveT rfl ?_
      refine S.shrC (q := 65536) rfl rfl rfl (by decide) rfl rfl ?_
      refine S.assignT rfl ?_
      refine WS.done ?_
      refine WR.region rfl ?_
      refine S.moveT rfl ?_
      first
        | refine S.addN rfl rfl rfl (by omega) ?_
        | refine S.add rfl rfl rfl ?_
      refine S.assignT rfl ?_
      refine WS.done ?_
      refine WR.seq ?_
      refine WR.seq ?_
      refine WR.region rfl ?_
      refine S.moveT rfl ?_
      refine S.geq rfl rfl rfl ?_
      refine WS.done ?_
      refine WR.condD rfl (fun c14 => ?_) (fun c14 => ?_)
      ·
        skip
        refine WR.seq ?_
        refine WR.region rfl ?_
        refine S.moveT rfl ?_
        refine S.shrC (q := 256) rfl rfl rfl (by decide) rfl rfl ?_
        refine S.assignT rfl ?_
        refine WS.done ?_
        refine WR.region rfl ?_
        refine S.moveT rfl ?_
        first
          | refine S.addN rfl rfl rfl (by omega) ?_
          | refine S.add rfl rfl rfl ?_
        refine S.assignT rfl ?_
        refine WS.done ?_
        refine WR.seq ?_
        refine WR.region rfl ?_
        refine S.moveT rfl ?_
        refine S.moveT rfl ?_
        first
          | refine S.convN Try.underlying22 Try.underlying5 rfl rfl (wrap_u8 (by omega) (by omega)) ?_
          | refine S.conv Try.underlying22 Try.underlying5 rfl rfl ?_
        refine S.indexLen Try.underlying9 rfl rfl (by omega) (by omega) rfl (by decide +kernel) rfl ?_
        intro yy hyy hy8
        first
          | refine S.convN Try.underlying5 Try.underlying3 rfl rfl (wrap_i64 (by omega) (by omega)) ?_
          | refine S.conv Try.underlying5 Try.underlying3 rfl rfl ?_
        first
          | refine S.addN rfl rfl rfl (by omega) ?_
          | refine S.add rfl rfl rfl ?_
        refine S.assignT rfl ?_
        refine WS.done ?_
        refine WR.ret (ret1 rfl rfl ?_)
        exact ⟨congrArg (Value.int .i64) (by first | exact len64_fin 0 1 rfl yy hyy (by omega) (.inl rfl) (by omega) | exact len64_fin 8 256 rfl yy hyy (by omega) (.inr (by omega)) (by omega) | exact len64_fin 16 65536 rfl yy hyy (by omega) (.inr (by omega)) (by omega) | exact len64_fin 24 16777216 rfl yy hyy (by omega) (.inr (by omega)) (by omega) | exact len64_fin 32 4294967296 rfl yy hyy (by omega) (.inr (by omega)) (by omega) | exact len64_fin 40 1099511627776 rfl yy hyy (by omega) (.inr (by omega)) (by omega) | exact len64_fin 48 281474976710656 rfl yy hyy (by omega) (.inr (by omega)) (by omega) | exact len64_fin 56 72057594037927936 rfl yy hyy (by omega) (.inr (by omega)) (by omega)), hS⟩
      ·
        skip
        refine WR.skip ?_
        refine WR.seq ?_
        refine WR.region rfl ?_
        refine S.moveT rfl ?_
        refine S.moveT rfl ?_
        first
          | refine S.convN Try.underlying22 Try.underlying5 rfl rfl (wrap_u8 (by omega) (by omega)) ?_
          | refine S.conv Try.underlying22 Try.underlying5 rfl rfl ?_
        refine S.indexLen Try.underlying9 rfl rfl (by omega) (by omega) rfl (by decide +kernel) rfl ?_
        intro yy hyy hy8
        first
          | refine S.convN Try.underlying5 Try.underlying3 rfl rfl (wrap_i64 (by omega) (by omega)) ?_
          | refine S.conv Try.underlying5 Try.underlying3 rfl rfl ?_
        first
          | refine S.addN rfl rfl rfl (by omega) ?_
          | refine S.add rfl rfl rfl ?_
        refine S.assignT rfl ?_
        refine WS.done ?_
        refine WR.ret (ret1 rfl rfl ?_)
        exact ⟨congrArg (Value.int .i64) (by first | exact len64_fin 0 1 rfl yy hyy (by omega) (.inl rfl) (by omega) | exact len64_fin 8 256 rfl yy hyy (by omega) (.inr (by omega)) (by omega) | exact len64_fin 16 65536 rfl yy hyy (by omega) (.inr (by omega)) (by omega) | exact len64_fin 24 16777216 rfl yy hyy (by omega) (.inr (by omega)) (by omega) | exact len64_fin 32 4294967296 rfl yy hyy (by omega) (.inr (by omega)) (by omega) | exact len64_fin 40 1099511627776 rfl yy hyy (by omega) (.inr (by omega)) (by omega) | exact len64_fin 48 281474976710656 rfl yy hyy (by omega) (.inr (by omega)) (by omega) | exact len64_fin 56 72057594037927936 rfl yy hyy (by omega) (.inr (by omega)) (by omega)), hS⟩
    ·
      skip
      refine WR.skip ?_
      refine WR.seq ?_
      refine WR.seq ?_
      refine WR.region rfl ?_
      refine S.moveT rfl ?_
      refine S.geq rfl rfl rfl ?_
      refine WS.done ?_
      refine WR.condD rfl (fun c14 => ?_) (fun c14 => ?_)
      ·
        skip
        refine WR.seq ?_
        refine WR.region rfl ?_
        refine S.moveT rfl ?_
        refine S.shrC (q := 256) rfl rfl rfl (by decide) rfl rfl ?_
        refine S.assignT rfl ?_
        refine WS.done ?_
        refine WR.region rfl ?_
        refine S.moveT rfl ?_
        first
          | refine S.addN rfl rfl rfl (by omega) ?_
          | refine S.add rfl rfl rfl ?_
        refine S.assignT rfl ?_
        refine WS.done ?_
        refine WR.seq ?_
        refine WR.region rfl ?_
        refine S.moveT rfl ?_
        refine S.moveT rfl ?_
        first
          | refine S.convN Try.underlying22 Try.underlying5 rfl rfl (wrap_u8 (by omega) (by omega)) ?_
          | refine S.conv Try.underlying22 Try.underlying5 rfl rfl ?_
        refine S.indexLen Try.underlying9 rfl rfl (by omega) (by omega) rfl (by decide +kernel) rfl ?_
        intro yy hyy hy8
        first
          | refine S.convN Try.underlying5 Try.underlying3 rfl rfl (wrap_i64 (by omega) (by omega)) ?_
          | refine S.conv Try.underlying5 Try.underlying3 rfl rfl ?_
        first
          | refine S.addN rfl rfl rfl (by omega) ?_
          | refine S.add rfl rfl rfl ?_
        refine S.assignT rfl ?_
        refine WS.done ?_
        refine WR.ret (ret1 rfl rfl ?_)
        exact ⟨congrArg (Value.int .i64) (by first | exact len64_fin 0 1 rfl yy hyy (by omega) (.inl rfl) (by omega) | exact len64_fin 8 256 rfl yy hyy (by omega) (.inr (by omega)) (by omega) | exact len64_fin 16 65536 rfl yy hyy (by omega) (.inr (by omega)) (by omega) | exact len64_fin 24 16777216 rfl yy hyy (by omega) (.inr (by omega)) (by omega) | exact len64_fin 32 4294967296 rfl yy hyy (by omega) (.inr (by omega)) (by omega) | exact len64_fin 40 1099511627776 rfl yy hyy (by omega) (.inr (by omega)) (by omega) | exact len64_fin 48 281474976710656 rfl yy hyy (by omega) (.inr (by omega)) (by omega) | exact len64_fin 56 72057594037927936 rfl yy hyy (by omega) (.inr (by omega)) (by omega)), hS⟩
      ·
        skip
        refine WR.skip ?_
        refine WR.seq ?_
        refine WR.region rfl ?_
        refine S.moveT rfl ?_
        refine S.moveT rfl ?_
        first
          | refine S.convN Try.underlying22 Try.underlying5 rfl rfl (wrap_u8 (by omega) (by omega)) ?_
          | refine S.conv Try.underlying22 Try.underlying5 rfl rfl ?_
        refine S.indexLen Try.underlying9 rfl rfl (by omega) (by omega) rfl (by decide +kernel) rfl ?_
        intro yy hyy hy8
        first
          | refine S.convN Try.underlying5 Try.underlying3 rfl rfl (wrap_i64 (by omega) (by omega)) ?_
          | refine S.conv Try.underlying5 Try.underlying3 rfl rfl ?_
        first
          | refine S.addN rfl rfl rfl (by omega) ?_
          | refine S.add rfl rfl rfl ?_
        refine S.assignT rfl ?_
        refine WS.done ?_
        refine WR.ret (ret1 rfl rfl ?_)
        exact ⟨congrArg (Value.int .i64) (by first | exact len64_fin 0 1 rfl yy hyy (by omega) (.inl rfl) (by omega) | exact len64_fin 8 256 rfl yy hyy (by omega) (.inr (by omega)) (by omega) | exact len64_fin 16 65536 rfl yy hyy (by omega) (.inr (by omega)) (by omega) | exact len64_fin 24 16777216 rfl yy hyy (by omega) (.inr (by omega)) (by omega) | exact len64_fin 32 4294967296 rfl yy hyy (by omega) (.inr (by omega)) (by omega) | exact len64_fin 40 1099511627776 rfl yy hyy (by omega) (.inr (by omega)) (by omega) | exact len64_fin 48 281474976710656 rfl yy hyy (by omega) (.inr (by omega)) (by omega) | exact len64_fin 56 72057594037927936 rfl yy hyy (by omega) (.inr (by omega)) (by omega)), hS⟩

set_option maxRecDepth 100000 in
set_option maxHeartbeats 4000000 in
theorem s_lz64 {w : World} {R : Kn} {L : List HP}  (hS : St w R (L)) {a : Int} (ha : 0 ≤ a ∧ a < 18446744073709551616) :
    Fn Try.prog 60 #[.int .u64 a] w (fun v w' => v = .int .i64 (64 - bitLen a.toNat) ∧ St w' R L) := by
  refine Fn.intro (n := 6) Try.func60 rfl rfl rfl ?_
  refine WR.seq ?_
  refine WR.region rfl ?_
  refine S.assignC rfl ?_
  refine WS.done ?_
  refine WR.seq ?_
  refine WR.region rfl ?_
  refine S.moveT rfl ?_
  refine S.call ent62 rfl (s_len64 hS (by omega)) rfl ?_
  rintro _ w4 ⟨rfl, hS4⟩
  clear hS
  have hl := bitLen_64 ha
  first
    | refine S.subN rfl rfl rfl (by omega) ?_
    | refine S.sub rfl rfl rfl ?_
  refine S.assignT rfl ?_
  refine WS.done ?_
  refine WR.ret (ret1 rfl rfl ?_)
  exact ⟨rfl, hS4⟩

set_option maxRecDepth 100000 in
set_option maxHeartbeats 4000000 in
theorem s_div64 {w : World} {R : Kn} {L : List HP}  (hS : St w R (L)) {hi lo y : Int} (h0 : 0 ≤ hi ∧ hi < y) (hy : y < 18446744073709551616) (hlo : 0 ≤ lo ∧ lo < 18446744073709551616) :
    Fn Try.prog 50 #[.int .u64 hi, .int .u64 lo, .int .u64 y] w (fun v w' => v = .tuple #[.int .u64 ((hi * 18446744073709551616 + lo) / y), .int .u64 ((hi * 18446744073709551616 + lo) % y)] ∧ St w' R L) := by
  refine Fn.intro (n := 135) Try.func50 rfl rfl rfl ?_
  refine WR.seq ?_
  refine WR.region rfl ?_
  refine S.assignC rfl ?_
  refine S.assignC rfl ?_
  refine WS.done ?_
  refine WR.seq ?_
  refine WR.seq ?_
  refine WR.region rfl ?_
  refine S.moveT rfl ?_
  refine S.eql rfl rfl rfl ?_
  refine S.isFD (d := 20) rfl (by omega) ?_
  refine WS.done ?_
  refine WR.condF rfl ?_
  refine WR.skip ?_
  refine WR.seq ?_
  refine WR.seq ?_
  refine WR.region rfl ?_
  refine S.moveT rfl ?_
  refine S.moveT rfl ?_
  refine S.leq rfl rfl rfl ?_
  refine S.isFD (d := 24) rfl (by omega) ?_
  refine WS.done ?_
  refine WR.condF rfl ?_
  refine WR.skip ?_
  refine WR.seq ?_
  refine WR.seq ?_
  refine WR.region rfl ?_
  refine S.moveT rfl ?_
  refine S.eql rfl rfl rfl ?_
  refine WS.done ?_
  refine WR.condD rfl (fun c27 => ?_) (fun c27 => ?_)
  ·
    skip
    refine WR.seq ?_
    refine WR.regionQ mixed hS (by kernel_rfl) rfl ?_
    refine Q.moveT rfl ?_
    refine Q.moveT rfl ?_
    refine Q.quoU rfl rfl (by omega) (by omega) rfl ?_
    refine Q.moveT rfl ?_
    refine Q.moveT rfl ?_
    first
      | refine Q.remN rfl rfl (by omega) (by omega) rfl ?_
      | refine Q.rem rfl rfl (by omega) rfl ?_
    refine Q.assignT rfl ?_
    refine Q.assignT rfl ?_
    refine WQ.done ?_
    intro w5001 hS5001
    clear hS
    refine WR.ret (ret2 rfl rfl rfl ?_)
    exact ⟨tup2 (congrArg (Value.int .u64) (by rw [c27, Int.zero_mul, Int.zero_add])) (congrArg (Value.int .u64) (by rw [c27, Int.zero_mul, Int.zero_add])), hS5001⟩
  ·
    skip
    refine WR.skip ?_
    refine WR.seq ?_
    refine WR.region rfl ?_
    refine S.moveT rfl ?_
    refine S.call ent60 rfl (s_lz64 hS (by omega)) rfl ?_
    rintro _ w35 ⟨rfl, hS35⟩
    clear hS
    obtain ⟨s, p, g, hs, hU⟩ := Up.of (hi := hi) (lo := lo) (show 0 < y by omega) hy
    refine S.as (d := 35) rfl (congrArg (Value.int .i64) hs) ?_
    have hs63 := hU.le
    have hp1 := hU.p1
    first
      | refine S.convN Try.underlying3 Try.underlying68 rfl rfl (wrap_u64 (by omega) (by omega)) ?_
      | refine S.conv Try.underlying3 Try.underlying68 rfl rfl ?_
    refine S.assignT rfl ?_
    refine WS.done ?_
    refine WR.seq ?_
    refine WR.region rfl ?_
    refine S.moveT rfl ?_
    refine S.moveT rfl ?_
    refine S.shl rfl rfl (by omega) rfl ?_
    refine S.as (d := 39) rfl (congrArg (Value.int .u64) (hU.shl (by omega) hU.y2)) ?_
    obtain ⟨hY1, hY2⟩ := hU.big
    obtain ⟨Y, hY⟩ : ∃ Y, y * p = Y := ⟨_, rfl⟩
    refine S.as (d := 39) rfl (congrArg (Value.int .u64) hY) ?_
    rw [hY] at hY1 hY2
    refine S.assignT rfl ?_
    refine WS.done ?_
    refine WR.seq ?_
    refine WR.region rfl ?_
    refine S.moveT rfl ?_
    refine S.shrC (q := 4294967296) rfl rfl rfl (by decide) rfl rfl ?_
    refine S.assignT rfl ?_
    refine WS.done ?_
    refine WR.seq ?_
    refine WR.region rfl ?_
    refine S.moveT rfl ?_
    refine S.andLow rfl rfl rfl (by omega) ?_
    refine S.assignT rfl ?_
    refine WS.done ?_
    refine WR.seq ?_
    refine WR.region rfl ?_
    obtain ⟨u, v, hu, hv, hM, hu0, hu1, hv0, hv1⟩ := hU.words h0 hlo
    rw [hY] at hu1
    refine S.moveT rfl ?_
    refine S.moveT rfl ?_
    refine S.shl rfl rfl (by omega) rfl ?_
    refine S.as (d := 46) rfl (congrArg (Value.int .u64) (hU.shl h0.1 (by have := hU.y2; omega))) ?_
    refine S.moveT rfl ?_
    refine S.moveT rfl ?_
    first
      | refine S.subU rfl rfl rfl (by omega) ?_
      | refine S.sub rfl rfl rfl ?_
    refine S.shr rfl rfl (by omega) rfl ?_
    refine S.as (d := 50) rfl (congrArg (Value.int .u64) hU.shr') ?_
    refine S.or rfl rfl rfl ?_
    refine S.as (d := 51) rfl (congrArg (Value.int .u64) hu) ?_
    refine S.assignT rfl ?_
    refine WS.done ?_
    refine WR.seq ?_
    refine WR.region rfl ?_
    refine S.moveT rfl ?_
    refine S.moveT rfl ?_
    refine S.shl rfl rfl (by omega) rfl ?_
    refine S.as (d := 54) rfl (congrArg (Value.int .u64) hv) ?_
    refine S.assignT rfl ?_
    refine WS.done ?_
    refine WR.seq ?_
    refine WR.region rfl ?_
    refine S.moveT rfl ?_
    refine S.shrC (q := 4294967296) rfl rfl rfl (by decide) rfl rfl ?_
    refine S.assignT rfl ?_
    refine WS.done ?_
    refine WR.seq ?_
    refine WR.region rfl ?_
    refine S.moveT rfl ?_
    refine S.andLow rfl rfl rfl (by omega) ?_
    refine S.assignT rfl ?_
    refine WS.done ?_
    refine WR.seq ?_
    refine WR.region rfl ?_
    refine S.moveT rfl ?_
    refine S.moveT rfl ?_
    have hK1 := KnP.of hY1 hY2 hu0 hu1 (show 0 ≤ v / 4294967296 by omega) (by omega)
    have hqm1 := quo_mul hu0 (show 0 < Y / 4294967296 by omega)
    refine S.quoU rfl rfl (by omega) (by omega) rfl ?_
    refine S.assignT rfl ?_
    refine WS.done ?_
    refine WR.seq ?_
    refine WR.region rfl ?_
    refine S.moveT rfl ?_
    refine S.moveT rfl ?_
    refine S.moveT rfl ?_
    first
      | refine S.mulU rfl rfl rfl (by omega) ?_
      | refine S.mul rfl rfl rfl ?_
    first
      | refine S.subU rfl rfl rfl (by omega) ?_
      | refine S.sub rfl rfl rfl ?_
    refine S.assignT rfl ?_
    refine WS.done ?_
    refine WR.seq ?_
    refine WR.block ?_
    refine WR.loopE (fun rq mm rr wr => ∃ (q r : Int), mm = q.toNat ∧ (Kn1 (Y / 4294967296) (Y % 4294967296) u (v / 4294967296) q r) ∧ rr 15 = .int .u64 q ∧ rr 16 = .int .u64 r ∧ Agr [2, 8, 9, 10, 11, 13, 14] rr rq ∧ St wr R L) ⟨_, _, rfl, (by exact hK1.start), rfl, rfl, ⟨rfl, rfl, rfl, rfl, rfl, rfl, rfl, trivial⟩, hS35⟩ ?_
    rintro mm rr w1001 ⟨q, r, hm1001, hF, hr1001_15, hr1001_16, hA1001, hS1001⟩
    obtain ⟨rr, rfl⟩ := agrBack hA1001
    clear hA1001
    obtain ⟨rr, rfl⟩ := back2 (r := rr) hr1001_15 hr1001_16
    clear hr1001_15 hr1001_16
    have hq0 := hF.nonneg hK1
    have hr0 := hF.rlo
    have hr1 := hF.rhi
    have hqm := hF.most
    refine WR.seq ?_
    refine WR.seq ?_
    refine WR.region rfl ?_
    refine S.moveT rfl ?_
    refine S.geq rfl rfl rfl ?_
    refine S.moveT rfl ?_
    refine S.splitD (d := 69) rfl (fun c69 => ?_) (fun c69 => ?_)
    ·
      skip
      refine S.off rfl ?_
      refine S.off rfl ?_
      refine S.off rfl ?_
      refine S.off rfl ?_
      refine S.off rfl ?_
      refine S.off rfl ?_
      refine S.off rfl ?_
      refine S.off rfl ?_
      refine S.pickTC rfl rfl ?_
      refine WS.done ?_
      refine WR.condT rfl ?_
      refine WR.skip ?_
      refine WR.block ?_
      refine WR.seq ?_
      refine WR.region rfl ?_
      refine S.moveT rfl ?_
      have hc1 : 4294967296 ≤ q ∨ 4294967296 * r + v / 4294967296 < q * (Y % 4294967296) := by first | exact Or.inl c69 | exact Or.inr c78
      have hqp := hF.pos hK1 hc1
      first
        | refine S.subU rfl rfl rfl (by omega) ?_
        | refine S.sub rfl rfl rfl ?_
      refine S.assignT rfl ?_
      refine WS.done ?_
      refine WR.seq ?_
      refine WR.region rfl ?_
      refine S.moveT rfl ?_
      refine S.moveT rfl ?_
      first
        | refine S.addU rfl rfl rfl (by omega) ?_
        | refine S.add rfl rfl rfl ?_
      refine S.assignT rfl ?_
      refine WS.done ?_
      refine WR.seq ?_
      refine WR.region rfl ?_
      refine S.moveT rfl ?_
      refine S.geq rfl rfl rfl ?_
      refine WS.done ?_
      refine WR.condD rfl (fun c85 => ?_) (fun c85 => ?_)
      ·
        skip
        refine WR.exit ?_
        refine WR.seq ?_
        refine WR.region rfl ?_
        have hYe : Y / 4294967296 * 4294967296 + Y % 4294967296 = Y := by omega
        obtain ⟨Q1, hQ1⟩ : ∃ Q1, Q1 = (u * 4294967296 + v / 4294967296) / (Y / 4294967296 * 4294967296 + Y % 4294967296) := ⟨_, rfl⟩
        refine S.as (d := 15) rfl (congrArg (Value.int .u64) ((by first | exact hF.done1 hK1 c78 | exact hF.done2 hK1 hc1 c85 : _ = _).trans hQ1.symm)) ?_
        have hQ1b := hK1.quot
        rw [← hQ1] at hQ1b
        clear hF
        refine S.moveT rfl ?_
        refine S.mul rfl rfl rfl ?_
        refine S.moveT rfl ?_
        refine S.add rfl rfl rfl ?_
        refine S.moveT rfl ?_
        refine S.moveT rfl ?_
        refine S.mul rfl rfl rfl ?_
        refine S.sub rfl rfl rfl ?_
        rw [hYe] at hQ1
        obtain ⟨hR1a, hR1b⟩ := rest_of (show 0 < Y by omega) hQ1
        obtain ⟨R1, hR1⟩ : ∃ R1, R1 = u * 4294967296 + v / 4294967296 - Q1 * Y := ⟨_, rfl⟩
        rw [← hR1] at hR1a hR1b
        refine S.as (d := 93) rfl (congrArg (Value.int .u64) (wrap3 hR1 hR1a (by omega))) ?_
        refine S.assignT rfl ?_
        refine WS.done ?_
        refine WR.seq ?_
        refine WR.region rfl ?_
        refine S.moveT rfl ?_
        refine S.moveT rfl ?_
        have hK2 := KnP.of hY1 hY2 hR1a hR1b (show 0 ≤ v % 4294967296 by omega) (by omega)
        have hqm2 := quo_mul hR1a (show 0 < Y / 4294967296 by omega)
        refine S.quoU rfl rfl (by omega) (by omega) rfl ?_
        refine S.assignT rfl ?_
        refine WS.done ?_
        refine WR.seq ?_
        refine WR.region rfl ?_
        refine S.moveT rfl ?_
        refine S.moveT rfl ?_
        refine S.moveT rfl ?_
        first
          | refine S.mulU rfl rfl rfl (by omega) ?_
          | refine S.mul rfl rfl rfl ?_
        first
          | refine S.subU rfl rfl rfl (by omega) ?_
          | refine S.sub rfl rfl rfl ?_
        refine S.assignT rfl ?_
        refine WS.done ?_
        refine WR.seq ?_
        refine WR.block ?_
        refine WR.loopE (fun rq mm rr wr => ∃ (q r : Int), mm = q.toNat ∧ (Kn1 (Y / 4294967296) (Y % 4294967296) R1 (v % 4294967296) q r) ∧ rr 16 = .int .u64 r ∧ rr 18 = .int .u64 q ∧ Agr [2, 8, 9, 10, 14, 15, 17] rr rq ∧ St wr R L) ⟨_, _, rfl, (by exact hK2.start), rfl, rfl, ⟨rfl, rfl, rfl, rfl, rfl, rfl, rfl, trivial⟩, hS1001⟩ ?_
        rintro mm rr w1002 ⟨q, r, hm1002, hG, hr1002_16, hr1002_18, hA1002, hS1002⟩
        obtain ⟨rr, rfl⟩ := agrBack hA1002
        clear hA1002
        obtain ⟨rr, rfl⟩ := back2 (r := rr) hr1002_16 hr1002_18
        clear hr1002_16 hr1002_18
        have hq0 := hG.nonneg hK2
        have hr0 := hG.rlo
        have hr1 := hG.rhi
        have hqm := hG.most
        refine WR.seq ?_
        refine WR.seq ?_
        refine WR.region rfl ?_
        refine S.moveT rfl ?_
        refine S.geq rfl rfl rfl ?_
        refine S.moveT rfl ?_
        refine S.splitD (d := 104) rfl (fun c104 => ?_) (fun c104 => ?_)
        ·
          skip
          refine S.off rfl ?_
          refine S.off rfl ?_
          refine S.off rfl ?_
          refine S.off rfl ?_
          refine S.off rfl ?_
          refine S.off rfl ?_
          refine S.off rfl ?_
          refine S.off rfl ?_
          refine S.pickTC rfl rfl ?_
          refine WS.done ?_
          refine WR.condT rfl ?_
          refine WR.skip ?_
          refine WR.block ?_
          refine WR.seq ?_
          refine WR.region rfl ?_
          refine S.moveT rfl ?_
          have hc2 : 4294967296 ≤ q ∨ 4294967296 * r + v % 4294967296 < q * (Y % 4294967296) := by first | exact Or.inl c104 | exact Or.inr c113
          have hqp := hG.pos hK2 hc2
          first
            | refine S.subU rfl rfl rfl (by omega) ?_
            | refine S.sub rfl rfl rfl ?_
          refine S.assignT rfl ?_
          refine WS.done ?_
          refine WR.seq ?_
          refine WR.region rfl ?_
          refine S.moveT rfl ?_
          refine S.moveT rfl ?_
          first
            | refine S.addU rfl rfl rfl (by omega) ?_
            | refine S.add rfl rfl rfl ?_
          refine S.assignT rfl ?_
          refine WS.done ?_
          refine WR.seq ?_
          refine WR.region rfl ?_
          refine S.moveT rfl ?_
          refine S.geq rfl rfl rfl ?_
          refine WS.done ?_
          refine WR.condD rfl (fun c120 => ?_) (fun c120 => ?_)
          ·
            skip
            refine WR.exit ?_
            refine WR.seq ?_
            refine WR.region rfl ?_
            obtain ⟨Q0, hQ0⟩ : ∃ Q0, Q0 = (R1 * 4294967296 + v % 4294967296) / (Y / 4294967296 * 4294967296 + Y % 4294967296) := ⟨_, rfl⟩
            refine S.as (d := 18) rfl (congrArg (Value.int .u64) ((by first | exact hG.done1 hK2 c113 | exact hG.done2 hK2 hc2 c120 : _ = _).trans hQ0.symm)) ?_
            have hQ0b := hK2.quot
            rw [← hQ0] at hQ0b
            clear hG
            refine S.moveT rfl ?_
            first
              | refine S.mulU rfl rfl rfl (by omega) ?_
              | refine S.mul rfl rfl rfl ?_
            refine S.moveT rfl ?_
            first
              | refine S.addU rfl rfl rfl (by omega) ?_
              | refine S.add rfl rfl rfl ?_
            refine S.moveT rfl ?_
            refine S.mul rfl rfl rfl ?_
            refine S.moveT rfl ?_
            refine S.add rfl rfl rfl ?_
            refine S.moveT rfl ?_
            refine S.moveT rfl ?_
            refine S.mul rfl rfl rfl ?_
            refine S.sub rfl rfl rfl ?_
            rw [hYe] at hQ0
            obtain ⟨hR0a, hR0b⟩ := rest_of (show 0 < Y by omega) hQ0
            obtain ⟨R0, hR0⟩ : ∃ R0, R0 = R1 * 4294967296 + v % 4294967296 - Q0 * Y := ⟨_, rfl⟩
            rw [← hR0] at hR0a hR0b
            refine S.as (d := 132) rfl (congrArg (Value.int .u64) (wrap3 hR0 hR0a (by omega))) ?_
            refine S.moveT rfl ?_
            refine S.shr rfl rfl (by omega) rfl ?_
            refine S.as (d := 134) rfl (congrArg (Value.int .u64) hU.shr) ?_
            subst hY
            obtain ⟨hfin1, hfin2⟩ := knuth (show 0 < y by omega) (show 0 < p by omega) (hM.trans (by omega)) hQ1 hR1 hQ0 hR0
            refine S.assignT rfl ?_
            refine S.assignT rfl ?_
            refine WS.done ?_
            refine WR.ret (ret2 rfl rfl rfl ?_)
            exact ⟨tup2 (congrArg (Value.int .u64) hfin1) (congrArg (Value.int .u64) hfin2), hS1002⟩
          ·
            skip
            refine WR.skip ?_
            exact ⟨_, (by omega), ⟨q - 1, r + Y / 4294967296, rfl, (by exact hG.step hK2 hc2 (by omega)), rfl, rfl, ⟨rfl, rfl, rfl, rfl, rfl, rfl, rfl, trivial⟩, hS1002⟩⟩
        ·
          skip
          refine S.moveT rfl ?_
          refine S.moveT rfl ?_
          have hpq := prod_bound q (Y % 4294967296) hq0 (by omega) (by omega) (by omega)
          first
            | refine S.mulU rfl rfl rfl (by omega) ?_
            | refine S.mul rfl rfl rfl ?_
          refine S.moveT rfl ?_
          first
            | refine S.mulU rfl rfl rfl (by omega) ?_
            | refine S.mul rfl rfl rfl ?_
          refine S.moveT rfl ?_
          first
            | refine S.addU rfl rfl rfl (by omega) ?_
            | refine S.add rfl rfl rfl ?_
          refine S.gtr rfl rfl rfl ?_
          refine S.pickF rfl rfl ?_
          refine WS.done ?_
          refine WR.condD rfl (fun c113 => ?_) (fun c113 => ?_)
          ·
            skip
            refine WR.skip ?_
            refine WR.block ?_
            refine WR.seq ?_
            refine WR.region rfl ?_
            refine S.moveT rfl ?_
            have hc2 : 4294967296 ≤ q ∨ 4294967296 * r + v % 4294967296 < q * (Y % 4294967296) := by first | exact Or.inl c104 | exact Or.inr c113
            have hqp := hG.pos hK2 hc2
            first
              | refine S.subU rfl rfl rfl (by omega) ?_
              | refine S.sub rfl rfl rfl ?_
            refine S.assignT rfl ?_
            refine WS.done ?_
            refine WR.seq ?_
            refine WR.region rfl ?_
            refine S.moveT rfl ?_
            refine S.moveT rfl ?_
            first
              | refine S.addU rfl rfl rfl (by omega) ?_
              | refine S.add rfl rfl rfl ?_
            refine S.assignT rfl ?_
            refine WS.done ?_
            refine WR.seq ?_
            refine WR.region rfl ?_
            refine S.moveT rfl ?_
            refine S.geq rfl rfl rfl ?_
            refine WS.done ?_
            refine WR.condD rfl (fun c120 => ?_) (fun c120 => ?_)
            ·
              skip
              refine WR.exit ?_
              refine WR.seq ?_
              refine WR.region rfl ?_
              obtain ⟨Q0, hQ0⟩ : ∃ Q0, Q0 = (R1 * 4294967296 + v % 4294967296) / (Y / 4294967296 * 4294967296 + Y % 4294967296) := ⟨_, rfl⟩
              refine S.as (d := 18) rfl (congrArg (Value.int .u64) ((by first | exact hG.done1 hK2 c113 | exact hG.done2 hK2 hc2 c120 : _ = _).trans hQ0.symm)) ?_
              have hQ0b := hK2.quot
              rw [← hQ0] at hQ0b
              clear hG
              refine S.moveT rfl ?_
              first
                | refine S.mulU rfl rfl rfl (by omega) ?_
                | refine S.mul rfl rfl rfl ?_
              refine S.moveT rfl ?_
              first
                | refine S.addU rfl rfl rfl (by omega) ?_
                | refine S.add rfl rfl rfl ?_
              refine S.moveT rfl ?_
              refine S.mul rfl rfl rfl ?_
              refine S.moveT rfl ?_
              refine S.add rfl rfl rfl ?_
              refine S.moveT rfl ?_
              refine S.moveT rfl ?_
              refine S.mul rfl rfl rfl ?_
              refine S.sub rfl rfl rfl ?_
              rw [hYe] at hQ0
              obtain ⟨hR0a, hR0b⟩ := rest_of (show 0 < Y by omega) hQ0
              obtain ⟨R0, hR0⟩ : ∃ R0, R0 = R1 * 4294967296 + v % 4294967296 - Q0 * Y := ⟨_, rfl⟩
              rw [← hR0] at hR0a hR0b
              refine S.as (d := 132) rfl (congrArg (Value.int .u64) (wrap3 hR0 hR0a (by omega))) ?_
              refine S.moveT rfl ?_
              refine S.shr rfl rfl (by omega) rfl ?_
              refine S.as (d := 134) rfl (congrArg (Value.int .u64) hU.shr) ?_
              subst hY
              obtain ⟨hfin1, hfin2⟩ := knuth (show 0 < y by omega) (show 0 < p by omega) (hM.trans (by omega)) hQ1 hR1 hQ0 hR0
              refine S.assignT rfl ?_
              refine S.assignT rfl ?_
              refine WS.done ?_
              refine WR.ret (ret2 rfl rfl rfl ?_)
              exact ⟨tup2 (congrArg (Value.int .u64) hfin1) (congrArg (Value.int .u64) hfin2), hS1002⟩
            ·
              skip
              refine WR.skip ?_
              exact ⟨_, (by omega), ⟨q - 1, r + Y / 4294967296, rfl, (by exact hG.step hK2 hc2 (by omega)), rfl, rfl, ⟨rfl, rfl, rfl, rfl, rfl, rfl, rfl, trivial⟩, hS1002⟩⟩
          ·
            skip
            refine WR.exit ?_
            refine WR.seq ?_
            refine WR.region rfl ?_
            obtain ⟨Q0, hQ0⟩ : ∃ Q0, Q0 = (R1 * 4294967296 + v % 4294967296) / (Y / 4294967296 * 4294967296 + Y % 4294967296) := ⟨_, rfl⟩
            refine S.as (d := 18) rfl (congrArg (Value.int .u64) ((by first | exact hG.done1 hK2 c113 | exact hG.done2 hK2 hc2 c120 : _ = _).trans hQ0.symm)) ?_
            have hQ0b := hK2.quot
            rw [← hQ0] at hQ0b
            clear hG
            refine S.moveT rfl ?_
            first
              | refine S.mulU rfl rfl rfl (by omega) ?_
              | refine S.mul rfl rfl rfl ?_
            refine S.moveT rfl ?_
            first
              | refine S.addU rfl rfl rfl (by omega) ?_
              | refine S.add rfl rfl rfl ?_
            refine S.moveT rfl ?_
            refine S.mul rfl rfl rfl ?_
            refine S.moveT rfl ?_
            refine S.add rfl rfl rfl ?_
            refine S.moveT rfl ?_
            refine S.moveT rfl ?_
            refine S.mul rfl rfl rfl ?_
            refine S.sub rfl rfl rfl ?_
            rw [hYe] at hQ0
            obtain ⟨hR0a, hR0b⟩ := rest_of (show 0 < Y by omega) hQ0
            obtain ⟨R0, hR0⟩ : ∃ R0, R0 = R1 * 4294967296 + v % 4294967296 - Q0 * Y := ⟨_, rfl⟩
            rw [← hR0] at hR0a hR0b
            refine S.as (d := 132) rfl (congrArg (Value.int .u64) (wrap3 hR0 hR0a (by omega))) ?_
            refine S.moveT rfl ?_
            refine S.shr rfl rfl (by omega) rfl ?_
            refine S.as (d := 134) rfl (congrArg (Value.int .u64) hU.shr) ?_
            subst hY
            obtain ⟨hfin1, hfin2⟩ := knuth (show 0 < y by omega) (show 0 < p by omega) (hM.trans (by omega)) hQ1 hR1 hQ0 hR0
            refine S.assignT rfl ?_
            refine S.assignT rfl ?_
            refine WS.done ?_
            refine WR.ret (ret2 rfl rfl rfl ?_)
            exact ⟨tup2 (congrArg (Value.int .u64) hfin1) (congrArg (Value.int .u64) hfin2), hS1002⟩
      ·
        skip
        refine WR.skip ?_
        exact ⟨_, (by omega), ⟨q - 1, r + Y / 4294967296, rfl, (by exact hF.step hK1 hc1 (by omega)), rfl, rfl, ⟨rfl, rfl, rfl, rfl, rfl, rfl, rfl, trivial⟩, hS1001⟩⟩
    ·
      skip
      refine S.moveT rfl ?_
      refine S.moveT rfl ?_
      have hpq := prod_bound q (Y % 4294967296) hq0 (by omega) (by omega) (by omega)
      first
        | refine S.mulU rfl rfl rfl (by omega) ?_
        | refine S.mul rfl rfl rfl ?_
      refine S.moveT rfl ?_
      first
        | refine S.mulU rfl rfl rfl (by omega) ?_
        | refine S.mul rfl rfl rfl ?_
      refine S.moveT rfl ?_
      first
        | refine S.addU rfl rfl rfl (by omega) ?_
        | refine S.add rfl rfl rfl ?_
      refine S.gtr rfl rfl rfl ?_
      refine S.pickF rfl rfl ?_
      refine WS.done ?_
      refine WR.condD rfl (fun c78 => ?_) (fun c78 => ?_)
      ·
        skip
        refine WR.skip ?_
        refine WR.block ?_
        refine WR.seq ?_
        refine WR.region rfl ?_
        refine S.moveT rfl ?_
        have hc1 : 4294967296 ≤ q ∨ 4294967296 * r + v / 4294967296 < q * (Y % 4294967296) := by first | exact Or.inl c69 | exact Or.inr c78
        have hqp := hF.pos hK1 hc1
        first
          | refine S.subU rfl rfl rfl (by omega) ?_
          | refine S.sub rfl rfl rfl ?_
        refine S.assignT rfl ?_
        refine WS.done ?_
        refine WR.seq ?_
        refine WR.region rfl ?_
        refine S.moveT rfl ?_
        refine S.moveT rfl ?_
        first
          | refine S.addU rfl rfl rfl (by omega) ?_
          | refine S.add rfl rfl rfl ?_
        refine S.assignT rfl ?_
        refine WS.done ?_
        refine WR.seq ?_
        refine WR.region rfl ?_
        refine S.moveT rfl ?_
        refine S.geq rfl rfl rfl ?_
        refine WS.done ?_
        refine WR.condD rfl (fun c85 => ?_) (fun c85 => ?_)
        ·
          skip
          refine WR.exit ?_
          refine WR.seq ?_
          refine WR.region rfl ?_
          have hYe : Y / 4294967296 * 4294967296 + Y % 4294967296 = Y := by omega
          obtain ⟨Q1, hQ1⟩ : ∃ Q1, Q1 = (u * 4294967296 + v / 4294967296) / (Y / 4294967296 * 4294967296 + Y % 4294967296) := ⟨_, rfl⟩
          refine S.as (d := 15) rfl (congrArg (Value.int .u64) ((by first | exact hF.done1 hK1 c78 | exact hF.done2 hK1 hc1 c85 : _ = _).trans hQ1.symm)) ?_
          have hQ1b := hK1.quot
          rw [← hQ1] at hQ1b
          clear hF
          refine S.moveT rfl ?_
          refine S.mul rfl rfl rfl ?_
          refine S.moveT rfl ?_
          refine S.add rfl rfl rfl ?_
          refine S.moveT rfl ?_
          refine S.moveT rfl ?_
          refine S.mul rfl rfl rfl ?_
          refine S.sub rfl rfl rfl ?_
          rw [hYe] at hQ1
          obtain ⟨hR1a, hR1b⟩ := rest_of (show 0 < Y by omega) hQ1
          obtain ⟨R1, hR1⟩ : ∃ R1, R1 = u * 4294967296 + v / 4294967296 - Q1 * Y := ⟨_, rfl⟩
          rw [← hR1] at hR1a hR1b
          refine S.as (d := 93) rfl (congrArg (Value.int .u64) (wrap3 hR1 hR1a (by omega))) ?_
          refine S.assignT rfl ?_
          refine WS.done ?_
          refine WR.seq ?_
          refine WR.region rfl ?_
          refine S.moveT rfl ?_
          refine S.moveT rfl ?_
          have hK2 := KnP.of hY1 hY2 hR1a hR1b (show 0 ≤ v % 4294967296 by omega) (by omega)
          have hqm2 := quo_mul hR1a (show 0 < Y / 4294967296 by omega)
          refine S.quoU rfl rfl (by omega) (by omega) rfl ?_
          refine S.assignT rfl ?_
          refine WS.done ?_
          refine WR.seq ?_
          refine WR.region rfl ?_
          refine S.moveT rfl ?_
          refine S.moveT rfl ?_
          refine S.moveT rfl ?_
          first
            | refine S.mulU rfl rfl rfl (by omega) ?_
            | refine S.mul rfl rfl rfl ?_
          first
            | refine S.subU rfl rfl rfl (by omega) ?_
            | refine S.sub rfl rfl rfl ?_
          refine S.assignT rfl ?_
          refine WS.done ?_
          refine WR.seq ?_
          refine WR.block ?_
          refine WR.loopE (fun rq mm rr wr => ∃ (q r : Int), mm = q.toNat ∧ (Kn1 (Y / 4294967296) (Y % 4294967296) R1 (v % 4294967296) q r) ∧ rr 16 = .int .u64 r ∧ rr 18 = .int .u64 q ∧ Agr [2, 8, 9, 10, 14, 15, 17] rr rq ∧ St wr R L) ⟨_, _, rfl, (by exact hK2.start), rfl, rfl, ⟨rfl, rfl, rfl, rfl, rfl, rfl, rfl, trivial⟩, hS1001⟩ ?_
          rintro mm rr w1002 ⟨q, r, hm1002, hG, hr1002_16, hr1002_18, hA1002, hS1002⟩
          obtain ⟨rr, rfl⟩ := agrBack hA1002
          clear hA1002
          obtain ⟨rr, rfl⟩ := back2 (r := rr) hr1002_16 hr1002_18
          clear hr1002_16 hr1002_18
          have hq0 := hG.nonneg hK2
          have hr0 := hG.rlo
          have hr1 := hG.rhi
          have hqm := hG.most
          refine WR.seq ?_
          refine WR.seq ?_
          refine WR.region rfl ?_
          refine S.moveT rfl ?_
          refine S.geq rfl rfl rfl ?_
          refine S.moveT rfl ?_
          refine S.splitD (d := 104) rfl (fun c104 => ?_) (fun c104 => ?_)
          ·
            skip
            refine S.off rfl ?_
            refine S.off rfl ?_
            refine S.off rfl ?_
            refine S.off rfl ?_
            refine S.off rfl ?_
            refine S.off rfl ?_
            refine S.off rfl ?_
            refine S.off rfl ?_
            refine S.pickTC rfl rfl ?_
            refine WS.done ?_
            refine WR.condT rfl ?_
            refine WR.skip ?_
            refine WR.block ?_
            refine WR.seq ?_
            refine WR.region rfl ?_
            refine S.moveT rfl ?_
            have hc2 : 4294967296 ≤ q ∨ 4294967296 * r + v % 4294967296 < q * (Y % 4294967296) := by first | exact Or.inl c104 | exact Or.inr c113
            have hqp := hG.pos hK2 hc2
            first
              | refine S.subU rfl rfl rfl (by omega) ?_
              | refine S.sub rfl rfl rfl ?_
            refine S.assignT rfl ?_
            refine WS.done ?_
            refine WR.seq ?_
            refine WR.region rfl ?_
            refine S.moveT rfl ?_
            refine S.moveT rfl ?_
            first
              | refine S.addU rfl rfl rfl (by omega) ?_
              | refine S.add rfl rfl rfl ?_
            refine S.assignT rfl ?_
            refine WS.done ?_
            refine WR.seq ?_
            refine WR.region rfl ?_
            refine S.moveT rfl ?_
            refine S.geq rfl rfl rfl ?_
            refine WS.done ?_
            refine WR.condD rfl (fun c120 => ?_) (fun c120 => ?_)
            ·
              skip
              refine WR.exit ?_
              refine WR.seq ?_
              refine WR.region rfl ?_
              obtain ⟨Q0, hQ0⟩ : ∃ Q0, Q0 = (R1 * 4294967296 + v % 4294967296) / (Y / 4294967296 * 4294967296 + Y % 4294967296) := ⟨_, rfl⟩
              refine S.as (d := 18) rfl (congrArg (Value.int .u64) ((by first | exact hG.done1 hK2 c113 | exact hG.done2 hK2 hc2 c120 : _ = _).trans hQ0.symm)) ?_
              have hQ0b := hK2.quot
              rw [← hQ0] at hQ0b
              clear hG
              refine S.moveT rfl ?_
              first
                | refine S.mulU rfl rfl rfl (by omega) ?_
                | refine S.mul rfl rfl rfl ?_
              refine S.moveT rfl ?_
              first
                | refine S.addU rfl rfl rfl (by omega) ?_
                | refine S.add rfl rfl rfl ?_
              refine S.moveT rfl ?_
              refine S.mul rfl rfl rfl ?_
              refine S.moveT rfl ?_
              refine S.add rfl rfl rfl ?_
              refine S.moveT rfl ?_
              refine S.moveT rfl ?_
              refine S.mul rfl rfl rfl ?_
              refine S.sub rfl rfl rfl ?_
              rw [hYe] at hQ0
              obtain ⟨hR0a, hR0b⟩ := rest_of (show 0 < Y by omega) hQ0
              obtain ⟨R0, hR0⟩ : ∃ R0, R0 = R1 * 4294967296 + v % 4294967296 - Q0 * Y := ⟨_, rfl⟩
              rw [← hR0] at hR0a hR0b
              refine S.as (d := 132) rfl (congrArg (Value.int .u64) (wrap3 hR0 hR0a (by omega))) ?_
              refine S.moveT rfl ?_
              refine S.shr rfl rfl (by omega) rfl ?_
              refine S.as (d := 134) rfl (congrArg (Value.int .u64) hU.shr) ?_
              subst hY
              obtain ⟨hfin1, hfin2⟩ := knuth (show 0 < y by omega) (show 0 < p by omega) (hM.trans (by omega)) hQ1 hR1 hQ0 hR0
              refine S.assignT rfl ?_
              refine S.assignT rfl ?_
              refine WS.done ?_
              refine WR.ret (ret2 rfl rfl rfl ?_)
              exact ⟨tup2 (congrArg (Value.int .u64) hfin1) (congrArg (Value.int .u64) hfin2), hS1002⟩
            ·
              skip
              refine WR.skip ?_
              exact ⟨_, (by omega), ⟨q - 1, r + Y / 4294967296, rfl, (by exact hG.step hK2 hc2 (by omega)), rfl, rfl, ⟨rfl, rfl, rfl, rfl, rfl, rfl, rfl, trivial⟩, hS1002⟩⟩
          ·
            skip
            refine S.moveT rfl ?_
            refine S.moveT rfl ?_
            have hpq := prod_bound q (Y % 4294967296) hq0 (by omega) (by omega) (by omega)
            first
              | refine S.mulU rfl rfl rfl (by omega) ?_
              | refine S.mul rfl rfl rfl ?_
            refine S.moveT rfl ?_
            first
              | refine S.mulU rfl rfl rfl (by omega) ?_
              | refine S.mul rfl rfl rfl ?_
            refine S.moveT rfl ?_
            first
              | refine S.addU rfl rfl rfl (by omega) ?_
              | refine S.add rfl rfl rfl ?_
            refine S.gtr rfl rfl rfl ?_
            refine S.pickF rfl rfl ?_
            refine WS.done ?_
            refine WR.condD rfl (fun c113 => ?_) (fun c113 => ?_)
            ·
              skip
              refine WR.skip ?_
              refine WR.block ?_
              refine WR.seq ?_
              refine WR.region rfl ?_
              refine S.moveT rfl ?_
              have hc2 : 4294967296 ≤ q ∨ 4294967296 * r + v % 4294967296 < q * (Y % 4294967296) := by first | exact Or.inl c104 | exact Or.inr c113
              have hqp := hG.pos hK2 hc2
              first
                | refine S.subU rfl rfl rfl (by omega) ?_
                | refine S.sub rfl rfl rfl ?_
              refine S.assignT rfl ?_
              refine WS.done ?_
              refine WR.seq ?_
              refine WR.region rfl ?_
              refine S.moveT rfl ?_
              refine S.moveT rfl ?_
              first
                | refine S.addU rfl rfl rfl (by omega) ?_
                | refine S.add rfl rfl rfl ?_
              refine S.assignT rfl ?_
              refine WS.done ?_
              refine WR.seq ?_
              refine WR.region rfl ?_
              refine S.moveT rfl ?_
              refine S.geq rfl rfl rfl ?_
              refine WS.done ?_
              refine WR.condD rfl (fun c120 => ?_) (fun c120 => ?_)
              ·
                skip
                refine WR.exit ?_
                refine WR.seq ?_
                refine WR.region rfl ?_
                obtain ⟨Q0, hQ0⟩ : ∃ Q0, Q0 = (R1 * 4294967296 + v % 4294967296) / (Y / 4294967296 * 4294967296 + Y % 4294967296) := ⟨_, rfl⟩
                refine S.as (d := 18) rfl (congrArg (Value.int .u64) ((by first | exact hG.done1 hK2 c113 | exact hG.done2 hK2 hc2 c120 : _ = _).trans hQ0.symm)) ?_
                have hQ0b := hK2.quot
                rw [← hQ0] at hQ0b
                clear hG
                refine S.moveT rfl ?_
                first
                  | refine S.mulU rfl rfl rfl (by omega) ?_
                  | refine S.mul rfl rfl rfl ?_
                refine S.moveT rfl ?_
                first
                  | refine S.addU rfl rfl rfl (by omega) ?_
                  | refine S.add rfl rfl rfl ?_
                refine S.moveT rfl ?_
                refine S.mul rfl rfl rfl ?_
                refine S.moveT rfl ?_
                refine S.add rfl rfl rfl ?_
                refine S.moveT rfl ?_
                refine S.moveT rfl ?_
                refine S.mul rfl rfl rfl ?_
                refine S.sub rfl rfl rfl ?_
                rw [hYe] at hQ0
                obtain ⟨hR0a, hR0b⟩ := rest_of (show 0 < Y by omega) hQ0
                obtain ⟨R0, hR0⟩ : ∃ R0, R0 = R1 * 4294967296 + v % 4294967296 - Q0 * Y := ⟨_, rfl⟩
                rw [← hR0] at hR0a hR0b
                refine S.as (d := 132) rfl (congrArg (Value.int .u64) (wrap3 hR0 hR0a (by omega))) ?_
                refine S.moveT rfl ?_
                refine S.shr rfl rfl (by omega) rfl ?_
                refine S.as (d := 134) rfl (congrArg (Value.int .u64) hU.shr) ?_
                subst hY
                obtain ⟨hfin1, hfin2⟩ := knuth (show 0 < y by omega) (show 0 < p by omega) (hM.trans (by omega)) hQ1 hR1 hQ0 hR0
                refine S.assignT rfl ?_
                refine S.assignT rfl ?_
                refine WS.done ?_
                refine WR.ret (ret2 rfl rfl rfl ?_)
                exact ⟨tup2 (congrArg (Value.int .u64) hfin1) (congrArg (Value.int .u64) hfin2), hS1002⟩
              ·
                skip
                refine WR.skip ?_
                exact ⟨_, (by omega), ⟨q - 1, r + Y / 4294967296, rfl, (by exact hG.step hK2 hc2 (by omega)), rfl, rfl, ⟨rfl, rfl, rfl, rfl, rfl, rfl, rfl, trivial⟩, hS1002⟩⟩
            ·
              skip
              refine WR.exit ?_
              refine WR.seq ?_
              refine WR.region rfl ?_
              obtain ⟨Q0, hQ0⟩ : ∃ Q0, Q0 = (R1 * 4294967296 + v % 4294967296) / (Y / 4294967296 * 4294967296 + Y % 4294967296) := ⟨_, rfl⟩
              refine S.as (d := 18) rfl (congrArg (Value.int .u64) ((by first | exact hG.done1 hK2 c113 | exact hG.done2 hK2 hc2 c120 : _ = _).trans hQ0.symm)) ?_
              have hQ0b := hK2.quot
              rw [← hQ0] at hQ0b
              clear hG
              refine S.moveT rfl ?_
              first
                | refine S.mulU rfl rfl rfl (by omega) ?_
                | refine S.mul rfl rfl rfl ?_
              refine S.moveT rfl ?_
              first
                | refine S.addU rfl rfl rfl (by omega) ?_
                | refine S.add rfl rfl rfl ?_
              refine S.moveT rfl ?_
              refine S.mul rfl rfl rfl ?_
              refine S.moveT rfl ?_
              refine S.add rfl rfl rfl ?_
              refine S.moveT rfl ?_
              refine S.moveT rfl ?_
              refine S.mul rfl rfl rfl ?_
              refine S.sub rfl rfl rfl ?_
              rw [hYe] at hQ0
              obtain ⟨hR0a, hR0b⟩ := rest_of (show 0 < Y by omega) hQ0
              obtain ⟨R0, hR0⟩ : ∃ R0, R0 = R1 * 4294967296 + v % 4294967296 - Q0 * Y := ⟨_, rfl⟩
              rw [← hR0] at hR0a hR0b
              refine S.as (d := 132) rfl (congrArg (Value.int .u64) (wrap3 hR0 hR0a (by omega))) ?_
              refine S.moveT rfl ?_
              refine S.shr rfl rfl (by omega) rfl ?_
              refine S.as (d := 134) rfl (congrArg (Value.int .u64) hU.shr) ?_
              subst hY
              obtain ⟨hfin1, hfin2⟩ := knuth (show 0 < y by omega) (show 0 < p by omega) (hM.trans (by omega)) hQ1 hR1 hQ0 hR0
              refine S.assignT rfl ?_
              refine S.assignT rfl ?_
              refine WS.done ?_
              refine WR.ret (ret2 rfl rfl rfl ?_)
              exact ⟨tup2 (congrArg (Value.int .u64) hfin1) (congrArg (Value.int .u64) hfin2), hS1002⟩
        ·
          skip
          refine WR.skip ?_
          exact ⟨_, (by omega), ⟨q - 1, r + Y / 4294967296, rfl, (by exact hF.step hK1 hc1 (by omega)), rfl, rfl, ⟨rfl, rfl, rfl, rfl, rfl, rfl, rfl, trivial⟩, hS1001⟩⟩
      ·
        skip
        refine WR.exit ?_
        refine WR.seq ?_
        refine WR.region rfl ?_
        have hYe : Y / 4294967296 * 4294967296 + Y % 4294967296 = Y := by omega
        obtain ⟨Q1, hQ1⟩ : ∃ Q1, Q1 = (u * 4294967296 + v / 4294967296) / (Y / 4294967296 * 4294967296 + Y % 4294967296) := ⟨_, rfl⟩
        refine S.as (d := 15) rfl (congrArg (Value.int .u64) ((by first | exact hF.done1 hK1 c78 | exact hF.done2 hK1 hc1 c85 : _ = _).trans hQ1.symm)) ?_
        have hQ1b := hK1.quot
        rw [← hQ1] at hQ1b
        clear hF
        refine S.moveT rfl ?_
        refine S.mul rfl rfl rfl ?_
        refine S.moveT rfl ?_
        refine S.add rfl rfl rfl ?_
        refine S.moveT rfl ?_
        refine S.moveT rfl ?_
        refine S.mul rfl rfl rfl ?_
        refine S.sub rfl rfl rfl ?_
        rw [hYe] at hQ1
        obtain ⟨hR1a, hR1b⟩ := rest_of (show 0 < Y by omega) hQ1
        obtain ⟨R1, hR1⟩ : ∃ R1, R1 = u * 4294967296 + v / 4294967296 - Q1 * Y := ⟨_, rfl⟩
        rw [← hR1] at hR1a hR1b
        refine S.as (d := 93) rfl (congrArg (Value.int .u64) (wrap3 hR1 hR1a (by omega))) ?_
        refine S.assignT rfl ?_
        refine WS.done ?_
        refine WR.seq ?_
        refine WR.region rfl ?_
        refine S.moveT rfl ?_
        refine S.moveT rfl ?_
        have hK2 := KnP.of hY1 hY2 hR1a hR1b (show 0 ≤ v % 4294967296 by omega) (by omega)
        have hqm2 := quo_mul hR1a (show 0 < Y / 4294967296 by omega)
        refine S.quoU rfl rfl (by omega) (by omega) rfl ?_
        refine S.assignT rfl ?_
        refine WS.done ?_
        refine WR.seq ?_
        refine WR.region rfl ?_
        refine S.moveT rfl ?_
        refine S.moveT rfl ?_
        refine S.moveT rfl ?_
        first
          | refine S.mulU rfl rfl rfl (by omega) ?_
          | refine S.mul rfl rfl rfl ?_
        first
          | refine S.subU rfl rfl rfl (by omega) ?_
          | refine S.sub rfl rfl rfl ?_
        refine S.assignT rfl ?_
        refine WS.done ?_
        refine WR.seq ?_
        refine WR.block ?_
        refine WR.loopE (fun rq mm rr wr => ∃ (q r : Int), mm = q.toNat ∧ (Kn1 (Y / 4294967296) (Y % 4294967296) R1 (v % 4294967296) q r) ∧ rr 16 = .int .u64 r ∧ rr 18 = .int .u64 q ∧ Agr [2, 8, 9, 10, 14, 15, 17] rr rq ∧ St wr R L) ⟨_, _, rfl, (by exact hK2.start), rfl, rfl, ⟨rfl, rfl, rfl, rfl, rfl, rfl, rfl, trivial⟩, hS1001⟩ ?_
        rintro mm rr w1002 ⟨q, r, hm1002, hG, hr1002_16, hr1002_18, hA1002, hS1002⟩
        obtain ⟨rr, rfl⟩ := agrBack hA1002
        clear hA1002
        obtain ⟨rr, rfl⟩ := back2 (r := rr) hr1002_16 hr1002_18
        clear hr1002_16 hr1002_18
        have hq0 := hG.nonneg hK2
        have hr0 := hG.rlo
        have hr1 := hG.rhi
        have hqm := hG.most
        refine WR.seq ?_
        refine WR.seq ?_
        refine WR.region rfl ?_
        refine S.moveT rfl ?_
        refine S.geq rfl rfl rfl ?_
        refine S.moveT rfl ?_
        refine S.splitD (d := 104) rfl (fun c104 => ?_) (fun c104 => ?_)
        ·
          skip
          refine S.off rfl ?_
          refine S.off rfl ?_
          refine S.off rfl ?_
          refine S.off rfl ?_
          refine S.off rfl ?_
          refine S.off rfl ?_
          refine S.off rfl ?_
          refine S.off rfl ?_
          refine S.pickTC rfl rfl ?_
          refine WS.done ?_
          refine WR.condT rfl ?_
          refine WR.skip ?_
          refine WR.block ?_
          refine WR.seq ?_
          refine WR.region rfl ?_
          refine S.moveT rfl ?_
          have hc2 : 4294967296 ≤ q ∨ 4294967296 * r + v % 4294967296 < q * (Y % 4294967296) := by first | exact Or.inl c104 | exact Or.inr c113
          have hqp := hG.pos hK2 hc2
          first
            | refine S.subU rfl rfl rfl (by omega) ?_
            | refine S.sub rfl rfl rfl ?_
          refine S.assignT rfl ?_
          refine WS.done ?_
          refine WR.seq ?_
          refine WR.region rfl ?_
          refine S.moveT rfl ?_
          refine S.moveT rfl ?_
          first
            | refine S.addU rfl rfl rfl (by omega) ?_
            | refine S.add rfl rfl rfl ?_
          refine S.assignT rfl ?_
          refine WS.done ?_
          refine WR.seq ?_
          refine WR.region rfl ?_
          refine S.moveT rfl ?_
          refine S.geq rfl rfl rfl ?_
          refine WS.done ?_
          refine WR.condD rfl (fun c120 => ?_) (fun c120 => ?_)
          ·
            skip
            refine WR.exit ?_
            refine WR.seq ?_
            refine WR.region rfl ?_
            obtain ⟨Q0, hQ0⟩ : ∃ Q0, Q0 = (R1 * 4294967296 + v % 4294967296) / (Y / 4294967296 * 4294967296 + Y % 4294967296) := ⟨_, rfl⟩
            refine S.as (d := 18) rfl (congrArg (Value.int .u64) ((by first | exact hG.done1 hK2 c113 | exact hG.done2 hK2 hc2 c120 : _ = _).trans hQ0.symm)) ?_
            have hQ0b := hK2.quot
            rw [← hQ0] at hQ0b
            clear hG
            refine S.moveT rfl ?_
            first
              | refine S.mulU rfl rfl rfl (by omega) ?_
              | refine S.mul rfl rfl rfl ?_
            refine S.moveT rfl ?_
            first
              | refine S.addU rfl rfl rfl (by omega) ?_
              | refine S.add rfl rfl rfl ?_
            refine S.moveT rfl ?_
            refine S.mul rfl rfl rfl ?_
            refine S.moveT rfl ?_
            refine S.add rfl rfl rfl ?_
            refine S.moveT rfl ?_
            refine S.moveT rfl ?_
            refine S.mul rfl rfl rfl ?_
            refine S.sub rfl rfl rfl ?_
            rw [hYe] at hQ0
            obtain ⟨hR0a, hR0b⟩ := rest_of (show 0 < Y by omega) hQ0
            obtain ⟨R0, hR0⟩ : ∃ R0, R0 = R1 * 4294967296 + v % 4294967296 - Q0 * Y := ⟨_, rfl⟩
            rw [← hR0] at hR0a hR0b
            refine S.as (d := 132) rfl (congrArg (Value.int .u64) (wrap3 hR0 hR0a (by omega))) ?_
            refine S.moveT rfl ?_
            refine S.shr rfl rfl (by omega) rfl ?_
            refine S.as (d := 134) rfl (congrArg (Value.int .u64) hU.shr) ?_
            subst hY
            obtain ⟨hfin1, hfin2⟩ := knuth (show 0 < y by omega) (show 0 < p by omega) (hM.trans (by omega)) hQ1 hR1 hQ0 hR0
            refine S.assignT rfl ?_
            refine S.assignT rfl ?_
            refine WS.done ?_
            refine WR.ret (ret2 rfl rfl rfl ?_)
            exact ⟨tup2 (congrArg (Value.int .u64) hfin1) (congrArg (Value.int .u64) hfin2), hS1002⟩
          ·
            skip
            refine WR.skip ?_
            exact ⟨_, (by omega), ⟨q - 1, r + Y / 4294967296, rfl, (by exact hG.step hK2 hc2 (by omega)), rfl, rfl, ⟨rfl, rfl, rfl, rfl, rfl, rfl, rfl, trivial⟩, hS1002⟩⟩
        ·
          skip
          refine S.moveT rfl ?_
          refine S.moveT rfl ?_
          have hpq := prod_bound q (Y % 4294967296) hq0 (by omega) (by omega) (by omega)
          first
            | refine S.mulU rfl rfl rfl (by omega) ?_
            | refine S.mul rfl rfl rfl ?_
          refine S.moveT rfl ?_
          first
            | refine S.mulU rfl rfl rfl (by omega) ?_
            | refine S.mul rfl rfl rfl ?_
          refine S.moveT rfl ?_
          first
            | refine S.addU rfl rfl rfl (by omega) ?_
            | refine S.add rfl rfl rfl ?_
          refine S.gtr rfl rfl rfl ?_
          refine S.pickF rfl rfl ?_
          refine WS.done ?_
          refine WR.condD rfl (fun c113 => ?_) (fun c113 => ?_)
          ·
            skip
            refine WR.skip ?_
            refine WR.block ?_
            refine WR.seq ?_
            refine WR.region rfl ?_
            refine S.moveT rfl ?_
            have hc2 : 4294967296 ≤ q ∨ 4294967296 * r + v % 4294967296 < q * (Y % 4294967296) := by first | exact Or.inl c104 | exact Or.inr c113
            have hqp := hG.pos hK2 hc2
            first
              | refine S.subU rfl rfl rfl (by omega) ?_
              | refine S.sub rfl rfl rfl ?_
            refine S.assignT rfl ?_
            refine WS.done ?_
            refine WR.seq ?_
            refine WR.region rfl ?_
            refine S.moveT rfl ?_
            refine S.moveT rfl ?_
            first
              | refine S.addU rfl rfl rfl (by omega) ?_
              | refine S.add rfl rfl rfl ?_
            refine S.assignT rfl ?_
            refine WS.done ?_
            refine WR.seq ?_
            refine WR.region rfl ?_
            refine S.moveT rfl ?_
            refine S.geq rfl rfl rfl ?_
            refine WS.done ?_
            refine WR.condD rfl (fun c120 => ?_) (fun c120 => ?_)
            ·
              skip
              refine WR.exit ?_
              refine WR.seq ?_
              refine WR.region rfl ?_
              obtain ⟨Q0, hQ0⟩ : ∃ Q0, Q0 = (R1 * 4294967296 + v % 4294967296) / (Y / 4294967296 * 4294967296 + Y % 4294967296) := ⟨_, rfl⟩
              refine S.as (d := 18) rfl (congrArg (Value.int .u64) ((by first | exact hG.done1 hK2 c113 | exact hG.done2 hK2 hc2 c120 : _ = _).trans hQ0.symm)) ?_
              have hQ0b := hK2.quot
              rw [← hQ0] at hQ0b
              clear hG
              refine S.moveT rfl ?_
              first
                | refine S.mulU rfl rfl rfl (by omega) ?_
                | refine S.mul rfl rfl rfl ?_
              refine S.moveT rfl ?_
              first
                | refine S.addU rfl rfl rfl (by omega) ?_
                | refine S.add rfl rfl rfl ?_
              refine S.moveT rfl ?_
              refine S.mul rfl rfl rfl ?_
              refine S.moveT rfl ?_
              refine S.add rfl rfl rfl ?_
              refine S.moveT rfl ?_
              refine S.moveT rfl ?_
              refine S.mul rfl rfl rfl ?_
              refine S.sub rfl rfl rfl ?_
              rw [hYe] at hQ0
              obtain ⟨hR0a, hR0b⟩ := rest_of (show 0 < Y by omega) hQ0
              obtain ⟨R0, hR0⟩ : ∃ R0, R0 = R1 * 4294967296 + v % 4294967296 - Q0 * Y := ⟨_, rfl⟩
              rw [← hR0] at hR0a hR0b
              refine S.as (d := 132) rfl (congrArg (Value.int .u64) (wrap3 hR0 hR0a (by omega))) ?_
              refine S.moveT rfl ?_
              refine S.shr rfl rfl (by omega) rfl ?_
              refine S.as (d := 134) rfl (congrArg (Value.int .u64) hU.shr) ?_
              subst hY
              obtain ⟨hfin1, hfin2⟩ := knuth (show 0 < y by omega) (show 0 < p by omega) (hM.trans (by omega)) hQ1 hR1 hQ0 hR0
              refine S.assignT rfl ?_
              refine S.assignT rfl ?_
              refine WS.done ?_
              refine WR.ret (ret2 rfl rfl rfl ?_)
              exact ⟨tup2 (congrArg (Value.int .u64) hfin1) (congrArg (Value.int .u64) hfin2), hS1002⟩
            ·
              skip
              refine WR.skip ?_
              exact ⟨_, (by omega), ⟨q - 1, r + Y / 4294967296, rfl, (by exact hG.step hK2 hc2 (by omega)), rfl, rfl, ⟨rfl, rfl, rfl, rfl, rfl, rfl, rfl, trivial⟩, hS1002⟩⟩
          ·
            skip
            refine WR.exit ?_
            refine WR.seq ?_
            refine WR.region rfl ?_
            obtain ⟨Q0, hQ0⟩ : ∃ Q0, Q0 = (R1 * 4294967296 + v % 4294967296) / (Y / 4294967296 * 4294967296 + Y % 4294967296) := ⟨_, rfl⟩
            refine S.as (d := 18) rfl (congrArg (Value.int .u64) ((by first | exact hG.done1 hK2 c113 | exact hG.done2 hK2 hc2 c120 : _ = _).trans hQ0.symm)) ?_
            have hQ0b := hK2.quot
            rw [← hQ0] at hQ0b
            clear hG
            refine S.moveT rfl ?_
            first
              | refine S.mulU rfl rfl rfl (by omega) ?_
              | refine S.mul rfl rfl rfl ?_
            refine S.moveT rfl ?_
            first
              | refine S.addU rfl rfl rfl (by omega) ?_
              | refine S.add rfl rfl rfl ?_
            refine S.moveT rfl ?_
            refine S.mul rfl rfl rfl ?_
            refine S.moveT rfl ?_
            refine S.add rfl rfl rfl ?_
            refine S.moveT rfl ?_
            refine S.moveT rfl ?_
            refine S.mul rfl rfl rfl ?_
            refine S.sub rfl rfl rfl ?_
            rw [hYe] at hQ0
            obtain ⟨hR0a, hR0b⟩ := rest_of (show 0 < Y by omega) hQ0
            obtain ⟨R0, hR0⟩ : ∃ R0, R0 = R1 * 4294967296 + v % 4294967296 - Q0 * Y := ⟨_, rfl⟩
            rw [← hR0] at hR0a hR0b
            refine S.as (d := 132) rfl (congrArg (Value.int .u64) (wrap3 hR0 hR0a (by omega))) ?_
            refine S.moveT rfl ?_
            refine S.shr rfl rfl (by omega) rfl ?_
            refine S.as (d := 134) rfl (congrArg (Value.int .u64) hU.shr) ?_
            subst hY
            obtain ⟨hfin1, hfin2⟩ := knuth (show 0 < y by omega) (show 0 < p by omega) (hM.trans (by omega)) hQ1 hR1 hQ0 hR0
            refine S.assignT rfl ?_
            refine S.assignT rfl ?_
            refine WS.done ?_
            refine WR.ret (ret2 rfl rfl rfl ?_)
            exact ⟨tup2 (congrArg (Value.int .u64) hfin1) (congrArg (Value.int .u64) hfin2), hS1002⟩

set_option maxRecDepth 100000 in
set_option maxHeartbeats 4000000 in
theorem r_copyBytes {w : World} {R : Kn} {L : List HP}  (hS : St w R (L)) {v0 : Value} {xs : List Int} (h0 : Ro R (encI .u8) 1 v0 xs) (hm : xs.length ≤ 100000000) :
    Fn Try.prog 33 #[v0] w (fun v w' => St w' R (Ow 5 (encI .u8) 1 v xs :: L)) := by
  refine Fn.intro (n := 6) Try.func33 rfl rfl rfl ?_
  refine WR.seq ?_
  refine WR.region rfl ?_
  refine S.assignC rfl ?_
  refine WS.done ?_
  refine WR.seq ?_
  refine WR.region rfl ?_
  first
    | refine S.buildRow (vs := []) hS Try.underlying59 ti5 rfl rfl rfl rfl rfl rfl rfl ?_
    | refine S.buildRow hS Try.underlying59 ti5 rfl rfl rfl rfl rfl rfl rfl ?_
  intro b3 w3 hS3; clear hS
  have hSo := hS3.ownRow (enc := encI .u8) (n := 1) [] rfl (fun _ h => by cases h) (by simp)
  refine S.moveT rfl ?_
  refine S.appendRo (i := 0) hSo rfl h0 Try.underlying59 ti5 rfl rfl rfl rfl encI_one (by simp; omega) rfl ?_
  intro v5 w5 hS5; clear hSo
  refine S.assignT rfl ?_
  refine WS.done ?_
  refine WR.ret (ret1 rfl rfl ?_)
  exact hS5

set_option maxRecDepth 100000 in
set_option maxHeartbeats 4000000 in
theorem r_sameBytes {w : World} {R : Kn} {L : List HP}  (hS : St w R (L)) {v0 v1 : Value} {xs ys : List Int} (h0 : Ro R (encI .u8) 1 v0 xs) (h1 : Ro R (encI .u8) 1 v1 ys) (hm : xs.length ≤ 100000000) :
    Fn Try.prog 34 #[v0, v1] w (fun v w' => v = .bool (decide (xs = ys)) ∧ St w' R L) := by
  obtain ⟨a0, c0, rfl, hl0⟩ := h0.len
  obtain ⟨a1, c1, rfl, hl1⟩ := h1.len
  refine Fn.intro (n := 26) Try.func34 rfl rfl rfl ?_
  refine WR.seq ?_
  refine WR.region rfl ?_
  refine S.assignC rfl ?_
  refine WS.done ?_
  refine WR.seq ?_
  refine WR.seq ?_
  refine WR.region rfl ?_
  refine S.moveT rfl ?_
  refine S.lenSl Try.underlying59 rfl rfl ?_
  refine S.moveT rfl ?_
  refine S.lenSl Try.underlying59 rfl rfl ?_
  refine S.neq rfl rfl rfl ?_
  refine WS.done ?_
  refine WR.condD rfl (fun c10 => ?_) (fun c10 => ?_)
  ·
    skip
    refine WR.seq ?_
    refine WR.region rfl ?_
    refine S.assignC rfl ?_
    refine WS.done ?_
    refine WR.ret (ret1 rfl rfl ?_)
    refine ⟨congrArg Value.bool (decide_eq_false ?_).symm, hS⟩
    intro e; rw [e] at c10; exact c10 rfl
  ·
    skip
    refine WR.skip ?_
    refine WR.seq ?_
    refine WR.seq ?_
    refine WR.region rfl ?_
    refine S.assignC rfl ?_
    refine WS.done ?_
    refine WR.block ?_
    refine WR.loopE (fun rq mm rr wr => ∃ (i : Nat), mm = xs.length - i ∧ (i ≤ xs.length ∧ xs.take i = ys.take i) ∧ rr 5 = .int .i64 (i : Int) ∧ Agr [0, 1] rr rq ∧ St wr R L) ⟨0, rfl, (by exact ⟨by omega, by simp⟩), rfl, ⟨rfl, rfl, trivial⟩, hS⟩ ?_
    rintro mm rr w1001 ⟨i, hm1001, ⟨hi, hit⟩, hr1001_5, hA1001, hS1001⟩
    obtain ⟨rr, rfl⟩ := agrBack hA1001
    clear hA1001
    obtain ⟨rr, rfl⟩ := back1 (r := rr) hr1001_5
    clear hr1001_5
    have hlen : xs.length = ys.length := by omega
    refine WR.seq ?_
    refine WR.seq ?_
    refine WR.region rfl ?_
    refine S.moveT rfl ?_
    refine S.moveT rfl ?_
    refine S.lenSl Try.underlying59 rfl rfl ?_
    refine S.lss rfl rfl rfl ?_
    refine WS.done ?_
    refine WR.condD rfl (fun c14 => ?_) (fun c14 => ?_)
    ·
      skip
      refine WR.skip ?_
      refine WR.seq ?_
      refine WR.block ?_
      refine WR.seq ?_
      refine WR.regionQ mixed hS1001 (by kernel_rfl) rfl ?_
      refine Q.moveT rfl ?_
      refine Q.moveT rfl ?_
      refine Q.indexRo h0 Try.underlying59 ti5 rfl rfl (by omega) rfl ?_
      intro ad19 u19 hu19 hl19 hc19
      refine Q.loadRo hc19 rfl Try.underlying5 rfl rfl rfl ?_
      refine Q.moveT rfl ?_
      refine Q.moveT rfl ?_
      refine Q.indexRo h1 Try.underlying59 ti5 rfl rfl (by omega) rfl ?_
      intro ad23 u23 hu23 hl23 hc23
      refine Q.loadRo hc23 rfl Try.underlying5 rfl rfl rfl ?_
      refine Q.neq rfl rfl rfl ?_
      refine WQ.done ?_
      intro w5001 hS5001
      clear hS1001
      refine WR.condD rfl (fun c25 => ?_) (fun c25 => ?_)
      ·
        skip
        refine WR.seq ?_
        refine WR.region rfl ?_
        refine S.assignC rfl ?_
        refine WS.done ?_
        refine WR.ret (ret1 rfl rfl ?_)
        refine ⟨congrArg Value.bool (decide_eq_false ?_).symm, hS5001⟩
        intro e; subst e; rw [hu19] at hu23; exact c25 (Option.some.inj hu23)
      ·
        skip
        refine WR.skip ?_
        refine WR.region rfl ?_
        refine S.moveT rfl ?_
        first
          | refine S.addN rfl rfl rfl (by omega) ?_
          | refine S.add rfl rfl rfl ?_
        refine S.assignT rfl ?_
        refine WS.done ?_
        exact ⟨_, (by omega), ⟨i + 1, rfl, (by exact ⟨by omega, take_both _ _ i _ hit (by rw [Int.toNat_natCast] at hu19; exact hu19) (by rw [Int.toNat_natCast] at hu23; rw [Decidable.not_not.1 c25]; exact hu23)⟩), rfl, ⟨rfl, rfl, trivial⟩, hS5001⟩⟩
    ·
      skip
      refine WR.exit ?_
      refine WR.seq ?_
      refine WR.region rfl ?_
      refine S.assignC rfl ?_
      refine WS.done ?_
      refine WR.ret (ret1 rfl rfl ?_)
      refine ⟨congrArg Value.bool (decide_eq_true ?_).symm, hS1001⟩
      rw [List.take_of_length_le (by omega), List.take_of_length_le (by omega)] at hit; exact hit

set_option maxRecDepth 100000 in
set_option maxHeartbeats 4000000 in
theorem r_copyLongs {w : World} {R : Kn} {L : List HP}  (hS : St w R (L)) {v0 : Value} {xs : List Int} (h0 : Ro R (encI .i64) 1 v0 xs) (hm : xs.length ≤ 1000000) :
    Fn Try.prog 24 #[v0] w (fun v w' => St w' R (Ow 2 (encI .i64) 1 v xs :: L)) := by
  refine Fn.intro (n := 6) Try.func24 rfl rfl rfl ?_
  refine WR.seq ?_
  refine WR.region rfl ?_
  refine S.assignC rfl ?_
  refine WS.done ?_
  refine WR.seq ?_
  refine WR.region rfl ?_
  first
    | refine S.buildRow (vs := []) hS Try.underlying42 ti2 rfl rfl rfl rfl rfl rfl rfl ?_
    | refine S.buildRow hS Try.underlying42 ti2 rfl rfl rfl rfl rfl rfl rfl ?_
  intro b3 w3 hS3; clear hS
  have hSo := hS3.ownRow (enc := encI .i64) (n := 1) [] rfl (fun _ h => by cases h) (by simp)
  refine S.moveT rfl ?_
  refine S.appendRo (i := 0) hSo rfl h0 Try.underlying42 ti2 rfl rfl rfl rfl encI_one (by simp; omega) rfl ?_
  intro v5 w5 hS5; clear hSo
  refine S.assignT rfl ?_
  refine WS.done ?_
  refine WR.ret (ret1 rfl rfl ?_)
  exact hS5


end Go.Proofs.Ytnfideifgegijaa.B

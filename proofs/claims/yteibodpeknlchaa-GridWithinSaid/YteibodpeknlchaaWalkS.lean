import Derived.Test.YteibodpeknlchaaTypes
namespace Go.Proofs.Yteibodpeknlchaa.B
open Go.Proofs Go.RowKit
set_option linter.unusedVariables false
set_option linter.unusedSimpArgs false
set_option maxRecDepth 100000 in
set_option maxHeartbeats 4000000 in
theorem s_magnitude {w : World} {R : Kn} {L : List HP}  (hS : St w R (L)) {a : Int} (ha : fits a) :
    Fn Try.prog 54 #[.int .i64 a] w (fun v w' => v = .tuple #[.int .u64 (mag a), .bool (decide (a < 0))] ∧ St w' R L) := by
  obtain ⟨hlo, hhi⟩ := ha
  refine Fn.intro (n := 11) Try.func54 rfl rfl rfl ?_
  refine WR.seq ?_
  refine WR.region rfl ?_
  refine S.assignC rfl ?_
  refine S.assignC rfl ?_
  refine WS.done ?_
  refine WR.seq ?_
  refine WR.seq ?_
  refine WR.region rfl ?_
  refine S.moveT rfl ?_
  refine S.lss rfl rfl rfl ?_
  refine WS.done ?_
  refine WR.condD rfl (fun c5 => ?_) (fun c5 => ?_)
  ·
    skip
    refine WR.seq ?_
    refine WR.region rfl ?_
    refine S.moveT rfl ?_
    first
      | refine S.convN Try.underlying2 Try.underlying47 rfl rfl (wrap_u64 (by omega) (by omega)) ?_
      | refine S.conv Try.underlying2 Try.underlying47 rfl rfl ?_
    refine S.neg rfl rfl ?_
    refine S.assignT rfl ?_
    refine S.assignC rfl ?_
    refine WS.done ?_
    refine WR.ret (ret2 rfl rfl rfl ?_)
    exact ⟨tup2 (congrArg (Value.int .u64) (mag_neg c5 hlo)) (congrArg Value.bool (decide_eq_true c5).symm), hS⟩
  ·
    skip
    refine WR.skip ?_
    refine WR.seq ?_
    refine WR.region rfl ?_
    refine S.moveT rfl ?_
    first
      | refine S.convN Try.underlying2 Try.underlying47 rfl rfl (wrap_u64 (by omega) (by omega)) ?_
      | refine S.conv Try.underlying2 Try.underlying47 rfl rfl ?_
    refine S.assignT rfl ?_
    refine S.assignC rfl ?_
    refine WS.done ?_
    refine WR.ret (ret2 rfl rfl rfl ?_)
    exact ⟨tup2 (congrArg (Value.int .u64) (mag_pos c5)) (congrArg Value.bool (decide_eq_false c5).symm), hS⟩

set_option maxRecDepth 100000 in
set_option maxHeartbeats 4000000 in
theorem s_mul64 {w : World} {R : Kn} {L : List HP}  (hS : St w R (L)) {a b : Int} (ha : 0 ≤ a ∧ a < 18446744073709551616) (hb : 0 ≤ b ∧ b < 18446744073709551616) :
    Fn Try.prog 55 #[.int .u64 a, .int .u64 b] w (fun v w' => v = .tuple #[.int .u64 (a * b / 18446744073709551616), .int .u64 (a * b % 18446744073709551616)] ∧ St w' R L) := by
  have hA := prod_bound (a / 4294967296) (b / 4294967296) (by omega) (by omega) (by omega) (by omega)
  have hB := prod_bound (a / 4294967296) (b % 4294967296) (by omega) (by omega) (by omega) (by omega)
  have hC := prod_bound (a % 4294967296) (b % 4294967296) (by omega) (by omega) (by omega) (by omega)
  have hD := prod_bound (a % 4294967296) (b / 4294967296) (by omega) (by omega) (by omega) (by omega)
  refine Fn.intro (n := 51) Try.func55 rfl rfl rfl ?_
  refine WR.seq ?_
  refine WR.region rfl ?_
  refine S.assignC rfl ?_
  refine S.assignC rfl ?_
  refine WS.done ?_
  refine WR.seq ?_
  refine WR.region rfl ?_
  refine S.moveT rfl ?_
  refine S.andLow rfl rfl rfl (by omega) ?_
  refine S.assignT rfl ?_
  refine WS.done ?_
  refine WR.seq ?_
  refine WR.region rfl ?_
  refine S.moveT rfl ?_
  refine S.shrC (q := 4294967296) rfl rfl rfl (by decide) rfl rfl ?_
  refine S.assignT rfl ?_
  refine WS.done ?_
  refine WR.seq ?_
  refine WR.region rfl ?_
  refine S.moveT rfl ?_
  refine S.andLow rfl rfl rfl (by omega) ?_
  refine S.assignT rfl ?_
  refine WS.done ?_
  refine WR.seq ?_
  refine WR.region rfl ?_
  refine S.moveT rfl ?_
  refine S.shrC (q := 4294967296) rfl rfl rfl (by decide) rfl rfl ?_
  refine S.assignT rfl ?_
  refine WS.done ?_
  refine WR.seq ?_
  refine WR.region rfl ?_
  refine S.moveT rfl ?_
  refine S.moveT rfl ?_
  first
    | refine S.mulU rfl rfl rfl (by omega) ?_
    | refine S.mul rfl rfl rfl ?_
  refine S.assignT rfl ?_
  refine WS.done ?_
  refine WR.seq ?_
  refine WR.region rfl ?_
  refine S.moveT rfl ?_
  refine S.moveT rfl ?_
  first
    | refine S.mulU rfl rfl rfl (by omega) ?_
    | refine S.mul rfl rfl rfl ?_
  refine S.moveT rfl ?_
  refine S.shrC (q := 4294967296) rfl rfl rfl (by decide) rfl rfl ?_
  first
    | refine S.addU rfl rfl rfl (by omega) ?_
    | refine S.add rfl rfl rfl ?_
  refine S.assignT rfl ?_
  refine WS.done ?_
  refine WR.seq ?_
  refine WR.region rfl ?_
  refine S.moveT rfl ?_
  refine S.andLow rfl rfl rfl (by omega) ?_
  refine S.assignT rfl ?_
  refine WS.done ?_
  refine WR.seq ?_
  refine WR.region rfl ?_
  refine S.moveT rfl ?_
  refine S.shrC (q := 4294967296) rfl rfl rfl (by decide) rfl rfl ?_
  refine S.assignT rfl ?_
  refine WS.done ?_
  refine WR.seq ?_
  refine WR.region rfl ?_
  refine S.moveT rfl ?_
  refine S.moveT rfl ?_
  refine S.moveT rfl ?_
  first
    | refine S.mulU rfl rfl rfl (by omega) ?_
    | refine S.mul rfl rfl rfl ?_
  first
    | refine S.addU rfl rfl rfl (by omega) ?_
    | refine S.add rfl rfl rfl ?_
  refine S.assignT rfl ?_
  refine WS.done ?_
  refine WR.seq ?_
  refine WR.region rfl ?_
  refine S.moveT rfl ?_
  refine S.moveT rfl ?_
  first
    | refine S.mulU rfl rfl rfl (by omega) ?_
    | refine S.mul rfl rfl rfl ?_
  refine S.moveT rfl ?_
  first
    | refine S.addU rfl rfl rfl (by omega) ?_
    | refine S.add rfl rfl rfl ?_
  refine S.moveT rfl ?_
  refine S.shrC (q := 4294967296) rfl rfl rfl (by decide) rfl rfl ?_
  first
    | refine S.addU rfl rfl rfl (by omega) ?_
    | refine S.add rfl rfl rfl ?_
  refine S.assignT rfl ?_
  refine WS.done ?_
  refine WR.seq ?_
  refine WR.region rfl ?_
  refine S.moveT rfl ?_
  refine S.moveT rfl ?_
  refine S.mul rfl rfl rfl ?_
  refine S.assignT rfl ?_
  refine WS.done ?_
  refine WR.ret (ret2 rfl rfl rfl ?_)
  exact ⟨tup2 (congrArg (Value.int .u64) (mul64_hi ha hb)) (congrArg (Value.int .u64) (wrap_u64m _)), hS⟩

set_option maxRecDepth 100000 in
set_option maxHeartbeats 4000000 in
theorem s_len64 {w : World} {R : Kn} {L : List HP}  (hS : St w R (L)) {a : Int} (ha : 0 ≤ a ∧ a < 18446744073709551616) :
    Fn Try.prog 59 #[.int .u64 a] w (fun v w' => v = .int .i64 (bitLen a.toNat) ∧ St w' R L) := by
  refine Fn.intro (n := 25) Try.func59 rfl rfl rfl ?_
  refine WR.seq ?_
  refine WR.region rfl ?_
  refine S.assignC rfl ?_
  refine WS.done ?_
  refine WR.seq ?_
  refine WR.seq ?_
  refine WR.region rfl ?_
  refine S.moveT rfl ?_
  refine S.geq rfl rfl rfl ?_
  refine WS.done ?_
  refine WR.condD rfl (fun c4 => ?_) (fun c4 => ?_)
  ·
    skip
    refine WR.seq ?_
    refine WR.region rfl ?_
    refine S.moveT rfl ?_
    refine S.shrC (q := 4294967296) rfl rfl rfl (by decide) rfl rfl ?_
    refine S.assignT rfl ?_
    refine WS.done ?_
    refine WR.region rfl ?_
    refine S.assignC rfl ?_
    refine WS.done ?_
    refine WR.seq ?_
    refine WR.seq ?_
    refine WR.region rfl ?_
    refine S.moveT rfl ?_
    refine S.geq rfl rfl rfl ?_
    refine WS.done ?_
    refine WR.condD rfl (fun c8 => ?_) (fun c8 => ?_)
    ·
      skip
      refine WR.seq ?_
      refine WR.region rfl ?_
      refine S.moveT rfl ?_
      refine S.shrC (q := 65536) rfl rfl rfl (by decide) rfl rfl ?_
      refine S.assignT rfl ?_
      refine WS.done ?_
      refine WR.region rfl ?_
      refine S.moveT rfl ?_
      first
        | refine S.addN rfl rfl rfl (by omega) ?_
        | refine S.add rfl rfl rfl ?_
      refine S.assignT rfl ?_
      refine WS.done ?_
      refine WR.seq ?_
      refine WR.seq ?_
      refine WR.region rfl ?_
      refine S.moveT rfl ?_
      refine S.geq rfl rfl rfl ?_
      refine WS.done ?_
      refine WR.condD rfl (fun c14 => ?_) (fun c14 => ?_)
      ·
        skip
        refine WR.seq ?_
        refine WR.region rfl ?_
        refine S.moveT rfl ?_
        refine S.shrC (q := 256) rfl rfl rfl (by decide) rfl rfl ?_
        refine S.assignT rfl ?_
        refine WS.done ?_
        refine WR.region rfl ?_
        refine S.moveT rfl ?_
        first
          | refine S.addN rfl rfl rfl (by omega) ?_
          | refine S.add rfl rfl rfl ?_
        refine S.assignT rfl ?_
        refine WS.done ?_
        refine WR.seq ?_
        refine WR.region rfl ?_
        refine S.moveT rfl ?_
        refine S.moveT rfl ?_
        first
          | refine S.convN Try.underlying47 Try.underlying5 rfl rfl (wrap_u8 (by omega) (by omega)) ?_
          | refine S.conv Try.underlying47 Try.underlying5 rfl rfl ?_
        refine S.indexLen Try.underlying9 rfl rfl (by omega) (by omega) rfl (by decide +kernel) rfl ?_
        intro yy hyy hy8
        first
          | refine S.convN Try.underlying5 Try.underlying3 rfl rfl (wrap_i64 (by omega) (by omega)) ?_
          | refine S.conv Try.underlying5 Try.underlying3 rfl rfl ?_
        first
          | refine S.addN rfl rfl rfl (by omega) ?_
          | refine S.add rfl rfl rfl ?_
        refine S.assignT rfl ?_
        refine WS.done ?_
        refine WR.ret (ret1 rfl rfl ?_)
        exact ⟨congrArg (Value.int .i64) (by first | exact len64_fin 0 1 rfl yy hyy (by omega) (.inl rfl) (by omega) | exact len64_fin 8 256 rfl yy hyy (by omega) (.inr (by omega)) (by omega) | exact len64_fin 16 65536 rfl yy hyy (by omega) (.inr (by omega)) (by omega) | exact len64_fin 24 16777216 rfl yy hyy (by omega) (.inr (by omega)) (by omega) | exact len64_fin 32 4294967296 rfl yy hyy (by omega) (.inr (by omega)) (by omega) | exact len64_fin 40 1099511627776 rfl yy hyy (by omega) (.inr (by omega)) (by omega) | exact len64_fin 48 281474976710656 rfl yy hyy (by omega) (.inr (by omega)) (by omega) | exact len64_fin 56 72057594037927936 rfl yy hyy (by omega) (.inr (by omega)) (by omega)), hS⟩
      ·
        skip
        refine WR.skip ?_
        refine WR.seq ?_
        refine WR.region rfl ?_
        refine S.moveT rfl ?_
        refine S.moveT rfl ?_
        first
          | refine S.convN Try.underlying47 Try.underlying5 rfl rfl (wrap_u8 (by omega) (by omega)) ?_
          | refine S.conv Try.underlying47 Try.underlying5 rfl rfl ?_
        refine S.indexLen Try.underlying9 rfl rfl (by omega) (by omega) rfl (by decide +kernel) rfl ?_
        intro yy hyy hy8
        first
          | refine S.convN Try.underlying5 Try.underlying3 rfl rfl (wrap_i64 (by omega) (by omega)) ?_
          | refine S.conv Try.underlying5 Try.underlying3 rfl rfl ?_
        first
          | refine S.addN rfl rfl rfl (by omega) ?_
          | refine S.add rfl rfl rfl ?_
        refine S.assignT rfl ?_
        refine WS.done ?_
        refine WR.ret (ret1 rfl rfl ?_)
        exact ⟨congrArg (Value.int .i64) (by first | exact len64_fin 0 1 rfl yy hyy (by omega) (.inl rfl) (by omega) | exact len64_fin 8 256 rfl yy hyy (by omega) (.inr (by omega)) (by omega) | exact len64_fin 16 65536 rfl yy hyy (by omega) (.inr (by omega)) (by omega) | exact len64_fin 24 16777216 rfl yy hyy (by omega) (.inr (by omega)) (by omega) | exact len64_fin 32 4294967296 rfl yy hyy (by omega) (.inr (by omega)) (by omega) | exact len64_fin 40 1099511627776 rfl yy hyy (by omega) (.inr (by omega)) (by omega) | exact len64_fin 48 281474976710656 rfl yy hyy (by omega) (.inr (by omega)) (by omega) | exact len64_fin 56 72057594037927936 rfl yy hyy (by omega) (.inr (by omega)) (by omega)), hS⟩
    ·
      skip
      refine WR.skip ?_
      refine WR.seq ?_
      refine WR.seq ?_
      refine WR.region rfl ?_
      refine S.moveT rfl ?_
      refine S.geq rfl rfl rfl ?_
      refine WS.done ?_
      refine WR.condD rfl (fun c14 => ?_) (fun c14 => ?_)
      ·
        skip
        refine WR.seq ?_
        refine WR.region rfl ?_
        refine S.moveT rfl ?_
        refine S.shrC (q := 256) rfl rfl rfl (by decide) rfl rfl ?_
        refine S.assignT rfl ?_
        refine WS.done ?_
        refine WR.region rfl ?_
        refine S.moveT rfl ?_
        first
          | refine S.addN rfl rfl rfl (by omega) ?_
          | refine S.add rfl rfl rfl ?_
        refine S.assignT rfl ?_
        refine WS.done ?_
        refine WR.seq ?_
        refine WR.region rfl ?_
        refine S.moveT rfl ?_
        refine S.moveT rfl ?_
        first
          | refine S.convN Try.underlying47 Try.underlying5 rfl rfl (wrap_u8 (by omega) (by omega)) ?_
          | refine S.conv Try.underlying47 Try.underlying5 rfl rfl ?_
        refine S.indexLen Try.underlying9 rfl rfl (by omega) (by omega) rfl (by decide +kernel) rfl ?_
        intro yy hyy hy8
        first
          | refine S.convN Try.underlying5 Try.underlying3 rfl rfl (wrap_i64 (by omega) (by omega)) ?_
          | refine S.conv Try.underlying5 Try.underlying3 rfl rfl ?_
        first
          | refine S.addN rfl rfl rfl (by omega) ?_
          | refine S.add rfl rfl rfl ?_
        refine S.assignT rfl ?_
        refine WS.done ?_
        refine WR.ret (ret1 rfl rfl ?_)
        exact ⟨congrArg (Value.int .i64) (by first | exact len64_fin 0 1 rfl yy hyy (by omega) (.inl rfl) (by omega) | exact len64_fin 8 256 rfl yy hyy (by omega) (.inr (by omega)) (by omega) | exact len64_fin 16 65536 rfl yy hyy (by omega) (.inr (by omega)) (by omega) | exact len64_fin 24 16777216 rfl yy hyy (by omega) (.inr (by omega)) (by omega) | exact len64_fin 32 4294967296 rfl yy hyy (by omega) (.inr (by omega)) (by omega) | exact len64_fin 40 1099511627776 rfl yy hyy (by omega) (.inr (by omega)) (by omega) | exact len64_fin 48 281474976710656 rfl yy hyy (by omega) (.inr (by omega)) (by omega) | exact len64_fin 56 72057594037927936 rfl yy hyy (by omega) (.inr (by omega)) (by omega)), hS⟩
      ·
        skip
        refine WR.skip ?_
        refine WR.seq ?_
        refine WR.region rfl ?_
        refine S.moveT rfl ?_
        refine S.moveT rfl ?_
        first
          | refine S.convN Try.underlying47 Try.underlying5 rfl rfl (wrap_u8 (by omega) (by omega)) ?_
          | refine S.conv Try.underlying47 Try.underlying5 rfl rfl ?_
        refine S.indexLen Try.underlying9 rfl rfl (by omega) (by omega) rfl (by decide +kernel) rfl ?_
        intro yy hyy hy8
        first
          | refine S.convN Try.underlying5 Try.underlying3 rfl rfl (wrap_i64 (by omega) (by omega)) ?_
          | refine S.conv Try.underlying5 Try.underlying3 rfl rfl ?_
        first
          | refine S.addN rfl rfl rfl (by omega) ?_
          | refine S.add rfl rfl rfl ?_
        refine S.assignT rfl ?_
        refine WS.done ?_
        refine WR.ret (ret1 rfl rfl ?_)
        exact ⟨congrArg (Value.int .i64) (by first | exact len64_fin 0 1 rfl yy hyy (by omega) (.inl rfl) (by omega) | exact len64_fin 8 256 rfl yy hyy (by omega) (.inr (by omega)) (by omega) | exact len64_fin 16 65536 rfl yy hyy (by omega) (.inr (by omega)) (by omega) | exact len64_fin 24 16777216 rfl yy hyy (by omega) (.inr (by omega)) (by omega) | exact len64_fin 32 4294967296 rfl yy hyy (by omega) (.inr (by omega)) (by omega) | exact len64_fin 40 1099511627776 rfl yy hyy (by omega) (.inr (by omega)) (by omega) | exact len64_fin 48 281474976710656 rfl yy hyy (by omega) (.inr (by omega)) (by omega) | exact len64_fin 56 72057594037927936 rfl yy hyy (by omega) (.inr (by omega)) (by omega)), hS⟩
  ·
    skip
    refine WR.skip ?_
    refine WR.seq ?_
    refine WR.seq ?_
    refine WR.region rfl ?_
    refine S.moveT rfl ?_
    refine S.geq rfl rfl rfl ?_
    refine WS.done ?_
    refine WR.condD rfl (fun c8 => ?_) (fun c8 => ?_)
    ·
      skip
      refine WR.seq ?_
      refine WR.region rfl ?_
      refine S.moveT rfl ?_
      refine S.shrC (q := 65536) rfl rfl rfl (by decide) rfl rfl ?_
      refine S.assignT rfl ?_
      refine WS.done ?_
      refine WR.region rfl ?_
      refine S.moveT rfl ?_
      first
        | refine S.addN rfl rfl rfl (by omega) ?_
        | refine S.add rfl rfl rfl ?_
      refine S.assignT rfl ?_
      refine WS.done ?_
      refine WR.seq ?_
      refine WR.seq ?_
      refine WR.region rfl ?_
      refine S.moveT rfl ?_
      refine S.geq rfl rfl rfl ?_
      refine WS.done ?_
      refine WR.condD rfl (fun c14 => ?_) (fun c14 => ?_)
      ·
        skip
        refine WR.seq ?_
        refine WR.region rfl ?_
        refine S.moveT rfl ?_
        refine S.shrC (q := 256) rfl rfl rfl (by decide) rfl rfl ?_
        refine S.assignT rfl ?_
        refine WS.done ?_
        refine WR.region rfl ?_
        refine S.moveT rfl ?_
        first
          | refine S.addN rfl rfl rfl (by omega) ?_
          | refine S.add rfl rfl rfl ?_
        refine S.assignT rfl ?_
        refine WS.done ?_
        refine WR.seq ?_
        refine WR.region rfl ?_
        refine S.moveT rfl ?_
        refine S.moveT rfl ?_
        first
          | refine S.convN Try.underlying47 Try.underlying5 rfl rfl (wrap_u8 (by omega) (by omega)) ?_
          | refine S.conv Try.underlying47 Try.underlying5 rfl rfl ?_
        refine S.indexLen Try.underlying9 rfl rfl (by omega) (by omega) rfl (by decide +kernel) rfl ?_
        intro yy hyy hy8
        first
          | refine S.convN Try.underlying5 Try.underlying3 rfl rfl (wrap_i64 (by omega) (by omega)) ?_
          | refine S.conv Try.underlying5 Try.underlying3 rfl rfl ?_
        first
          | refine S.addN rfl rfl rfl (by omega) ?_
          | refine S.add rfl rfl rfl ?_
        refine S.assignT rfl ?_
        refine WS.done ?_
        refine WR.ret (ret1 rfl rfl ?_)
        exact ⟨congrArg (Value.int .i64) (by first | exact len64_fin 0 1 rfl yy hyy (by omega) (.inl rfl) (by omega) | exact len64_fin 8 256 rfl yy hyy (by omega) (.inr (by omega)) (by omega) | exact len64_fin 16 65536 rfl yy hyy (by omega) (.inr (by omega)) (by omega) | exact len64_fin 24 16777216 rfl yy hyy (by omega) (.inr (by omega)) (by omega) | exact len64_fin 32 4294967296 rfl yy hyy (by omega) (.inr (by omega)) (by omega) | exact len64_fin 40 1099511627776 rfl yy hyy (by omega) (.inr (by omega)) (by omega) | exact len64_fin 48 281474976710656 rfl yy hyy (by omega) (.inr (by omega)) (by omega) | exact len64_fin 56 72057594037927936 rfl yy hyy (by omega) (.inr (by omega)) (by omega)), hS⟩
      ·
        skip
        refine WR.skip ?_
        refine WR.seq ?_
        refine WR.region rfl ?_
        refine S.moveT rfl ?_
        refine S.moveT rfl ?_
        first
          | refine S.convN Try.underlying47 Try.underlying5 rfl rfl (wrap_u8 (by omega) (by omega)) ?_
          | refine S.conv Try.underlying47 Try.underlying5 rfl rfl ?_
        refine S.indexLen Try.underlying9 rfl rfl (by omega) (by omega) rfl (by decide +kernel) rfl ?_
        intro yy hyy hy8
        first
          | refine S.convN Try.underlying5 Try.underlying3 rfl rfl (wrap_i64 (by omega) (by omega)) ?_
          | refine S.conv Try.underlying5 Try.underlying3 rfl rfl ?_
        first
          | refine S.addN rfl rfl rfl (by omega) ?_
          | refine S.add rfl rfl rfl ?_
        refine S.assignT rfl ?_
        refine WS.done ?_
        refine WR.ret (ret1 rfl rfl ?_)
        exact ⟨congrArg (Value.int .i64) (by first | exact len64_fin 0 1 rfl yy hyy (by omega) (.inl rfl) (by omega) | exact len64_fin 8 256 rfl yy hyy (by omega) (.inr (by omega)) (by omega) | exact len64_fin 16 65536 rfl yy hyy (by omega) (.inr (by omega)) (by omega) | exact len64_fin 24 16777216 rfl yy hyy (by omega) (.inr (by omega)) (by omega) | exact len64_fin 32 4294967296 rfl yy hyy (by omega) (.inr (by omega)) (by omega) | exact len64_fin 40 1099511627776 rfl yy hyy (by omega) (.inr (by omega)) (by omega) | exact len64_fin 48 281474976710656 rfl yy hyy (by omega) (.inr (by omega)) (by omega) | exact len64_fin 56 72057594037927936 rfl yy hyy (by omega) (.inr (by omega)) (by omega)), hS⟩
    ·
      skip
      refine WR.skip ?_
      refine WR.seq ?_
      refine WR.seq ?_
      refine WR.region rfl ?_
      refine S.moveT rfl ?_
      refine S.geq rfl rfl rfl ?_
      refine WS.done ?_
      refine WR.condD rfl (fun c14 => ?_) (fun c14 => ?_)
      ·
        skip
        refine WR.seq ?_
        refine WR.region rfl ?_
        refine S.moveT rfl ?_
        refine S.shrC (q := 256) rfl rfl rfl (by decide) rfl rfl ?_
        refine S.assignT rfl ?_
        refine WS.done ?_
        refine WR.region rfl ?_
        refine S.moveT rfl ?_
        first
          | refine S.addN rfl rfl rfl (by omega) ?_
          | refine S.add rfl rfl rfl ?_
        refine S.assignT rfl ?_
        refine WS.done ?_
        refine WR.seq ?_
        refine WR.region rfl ?_
        refine S.moveT rfl ?_
        refine S.moveT rfl ?_
        first
          | refine S.convN Try.underlying47 Try.underlying5 rfl rfl (wrap_u8 (by omega) (by omega)) ?_
          | refine S.conv Try.underlying47 Try.underlying5 rfl rfl ?_
        refine S.indexLen Try.underlying9 rfl rfl (by omega) (by omega) rfl (by decide +kernel) rfl ?_
        intro yy hyy hy8
        first
          | refine S.convN Try.underlying5 Try.underlying3 rfl rfl (wrap_i64 (by omega) (by omega)) ?_
          | refine S.conv Try.underlying5 Try.underlying3 rfl rfl ?_
        first
          | refine S.addN rfl rfl rfl (by omega) ?_
          | refine S.add rfl rfl rfl ?_
        refine S.assignT rfl ?_
        refine WS.done ?_
        refine WR.ret (ret1 rfl rfl ?_)
        exact ⟨congrArg (Value.int .i64) (by first | exact len64_fin 0 1 rfl yy hyy (by omega) (.inl rfl) (by omega) | exact len64_fin 8 256 rfl yy hyy (by omega) (.inr (by omega)) (by omega) | exact len64_fin 16 65536 rfl yy hyy (by omega) (.inr (by omega)) (by omega) | exact len64_fin 24 16777216 rfl yy hyy (by omega) (.inr (by omega)) (by omega) | exact len64_fin 32 4294967296 rfl yy hyy (by omega) (.inr (by omega)) (by omega) | exact len64_fin 40 1099511627776 rfl yy hyy (by omega) (.inr (by omega)) (by omega) | exact len64_fin 48 281474976710656 rfl yy hyy (by omega) (.inr (by omega)) (by omega) | exact len64_fin 56 72057594037927936 rfl yy hyy (by omega) (.inr (by omega)) (by omega)), hS⟩
      ·
        skip
        refine WR.skip ?_
        refine WR.seq ?_
        refine WR.region rfl ?_
        refine S.moveT rfl ?_
        refine S.moveT rfl ?_
        first
          | refine S.convN Try.underlying47 Try.underlying5 rfl rfl (wrap_u8 (by omega) (by omega)) ?_
          | refine S.conv Try.underlying47 Try.underlying5 rfl rfl ?_
        refine S.indexLen Try.underlying9 rfl rfl (by omega) (by omega) rfl (by decide +kernel) rfl ?_
        intro yy hyy hy8
        first
          | refine S.convN Try.underlying5 Try.underlying3 rfl rfl (wrap_i64 (by omega) (by omega)) ?_
          | refine S.conv Try.underlying5 Try.underlying3 rfl rfl ?_
        first
          | refine S.addN rfl rfl rfl (by omega) ?_
          | refine S.add rfl rfl rfl ?_
        refine S.assignT rfl ?_
        refine WS.done ?_
        refine WR.ret (ret1 rfl rfl ?_)
        exact ⟨congrArg (Value.int .i64) (by first | exact len64_fin 0 1 rfl yy hyy (by omega) (.inl rfl) (by omega) | exact len64_fin 8 256 rfl yy hyy (by omega) (.inr (by omega)) (by omega) | exact len64_fin 16 65536 rfl yy hyy (by omega) (.inr (by omega)) (by omega) | exact len64_fin 24 16777216 rfl yy hyy (by omega) (.inr (by omega)) (by omega) | exact len64_fin 32 4294967296 rfl yy hyy (by omega) (.inr (by omega)) (by omega) | exact len64_fin 40 1099511627776 rfl yy hyy (by omega) (.inr (by omega)) (by omega) | exact len64_fin 48 281474976710656 rfl yy hyy (by omega) (.inr (by omega)) (by omega) | exact len64_fin 56 72057594037927936 rfl yy hyy (by omega) (.inr (by omega)) (by omega)), hS⟩

set_option maxRecDepth 100000 in
set_option maxHeartbeats 4000000 in
theorem s_lz64 {w : World} {R : Kn} {L : List HP}  (hS : St w R (L)) {a : Int} (ha : 0 ≤ a ∧ a < 18446744073709551616) :
    Fn Try.prog 57 #[.int .u64 a] w (fun v w' => v = .int .i64 (64 - bitLen a.toNat) ∧ St w' R L) := by
  refine Fn.intro (n := 6) Try.func57 rfl rfl rfl ?_
  refine WR.seq ?_
  refine WR.region rfl ?_
  refine S.assignC rfl ?_
  refine WS.done ?_
  refine WR.seq ?_
  refine WR.region rfl ?_
  refine S.moveT rfl ?_
  refine S.call ent59 rfl (s_len64 hS (by omega)) rfl ?_
  rintro _ w4 ⟨rfl, hS4⟩
  clear hS
  have hl := bitLen_64 ha
  first
    | refine S.subN rfl rfl rfl (by omega) ?_
    | refine S.sub rfl rfl rfl ?_
  refine S.assignT rfl ?_
  refine WS.done ?_
  refine WR.ret (ret1 rfl rfl ?_)
  exact ⟨rfl, hS4⟩

set_option maxRecDepth 100000 in
set_option maxHeartbeats 4000000 in
theorem s_add {w : World} {R : Kn} {L : List HP}  (hS : St w R (L)) {a b : Int} (ha : fits a) (hb : fits b) :
    Fn Try.prog 25 #[.int .i64 a, .int .i64 b] w (fun v w' => v = told (a + b) ∧ St w' R L) := by
  refine Fn.intro (n := 23) Try.func25 rfl rfl rfl ?_
  refine WR.seq ?_
  refine WR.region rfl ?_
  refine S.assignC rfl ?_
  refine S.assignC rfl ?_
  refine WS.done ?_
  refine WR.seq ?_
  refine WR.region rfl ?_
  refine S.moveT rfl ?_
  refine S.moveT rfl ?_
  first
    | refine S.addN rfl rfl rfl (by omega) ?_
    | refine S.add rfl rfl rfl ?_
  refine S.assignT rfl ?_
  refine WS.done ?_
  refine WR.seq ?_
  refine WR.seq ?_
  refine WR.region rfl ?_
  refine S.moveT rfl ?_
  refine S.geq rfl rfl rfl ?_
  refine S.moveT rfl ?_
  refine S.geq rfl rfl rfl ?_
  refine S.eqlB Try.underlying4 rfl rfl rfl ?_
  refine S.moveT rfl ?_
  refine S.splitB (d := 15) rfl (fun c15 => ?_) (fun c15 => ?_)
  ·
    skip
    refine S.moveT rfl ?_
    refine S.geq rfl rfl rfl ?_
    refine S.moveT rfl ?_
    refine S.geq rfl rfl rfl ?_
    refine S.neqB Try.underlying4 rfl rfl rfl ?_
    refine S.pickT rfl rfl ?_
    refine WS.done ?_
    refine WR.cond rfl (fun c21 => ?_) (fun c21 => ?_)
    ·
      skip
      refine WR.seq ?_
      refine WR.region rfl ?_
      refine S.assignC rfl ?_
      refine S.assignC rfl ?_
      refine WS.done ?_
      refine WR.ret (ret2 rfl rfl rfl ?_)
      exact ⟨add_out ha hb c15 c21, hS⟩
    ·
      skip
      refine WR.skip ?_
      refine WR.seq ?_
      refine WR.region rfl ?_
      refine S.moveT rfl ?_
      refine S.assignT rfl ?_
      refine S.assignC rfl ?_
      refine WS.done ?_
      refine WR.ret (ret2 rfl rfl rfl ?_)
      exact ⟨add_in1 ha hb c21, hS⟩
  ·
    skip
    refine S.off rfl ?_
    refine S.off rfl ?_
    refine S.off rfl ?_
    refine S.off rfl ?_
    refine S.off rfl ?_
    refine S.pickFC rfl rfl ?_
    refine WS.done ?_
    refine WR.condF rfl ?_
    refine WR.skip ?_
    refine WR.seq ?_
    refine WR.region rfl ?_
    refine S.moveT rfl ?_
    refine S.assignT rfl ?_
    refine S.assignC rfl ?_
    refine WS.done ?_
    refine WR.ret (ret2 rfl rfl rfl ?_)
    exact ⟨add_in2 ha hb c15, hS⟩

set_option maxRecDepth 100000 in
set_option maxHeartbeats 4000000 in
theorem s_long {w : World} {R : Kn} {L : List HP}  (hS : St w R (L)) {hi lo : Int} {neg : Bool} (h1 : 0 ≤ hi ∧ hi < 18446744073709551616) (h2 : 0 ≤ lo ∧ lo < 18446744073709551616) :
    Fn Try.prog 41 #[.agg #[.int .u64 hi, .int .u64 lo], .bool neg] w (fun v w' => v = told (if neg = true then -(hi * 18446744073709551616 + lo) else hi * 18446744073709551616 + lo) ∧ St w' R L) := by
  refine Fn.intro (n := 33) Try.func41 rfl rfl rfl ?_
  refine WR.seq ?_
  refine WR.region rfl ?_
  refine S.box hS rfl rfl rfl ?_
  intro b2 w2 hS2; clear hS
  refine S.assignC rfl ?_
  refine S.assignC rfl ?_
  refine WS.done ?_
  refine WR.seq ?_
  refine WR.block ?_
  refine WR.seq ?_
  refine WR.region rfl ?_
  refine S.fieldB Try.underlying72 rfl ti47 rfl rfl rfl rfl ?_
  refine S.loadB (i := 0) hS2 rfl Try.underlying47 rfl rfl rfl rfl ?_
  refine S.neq rfl rfl rfl ?_
  refine S.moveT rfl ?_
  refine S.splitD (d := 10) rfl (fun c10 => ?_) (fun c10 => ?_)
  ·
    skip
    refine S.off rfl ?_
    refine S.off rfl ?_
    refine S.off rfl ?_
    refine S.pickTC rfl rfl ?_
    refine S.moveT rfl ?_
    refine S.off rfl ?_
    refine S.off rfl ?_
    refine S.off rfl ?_
    refine S.off rfl ?_
    refine S.off rfl ?_
    refine S.off rfl ?_
    refine S.off rfl ?_
    refine S.pickTC rfl rfl ?_
    refine S.assignT rfl ?_
    refine WS.done ?_
    refine WR.condT rfl ?_
    refine WR.seq ?_
    refine WR.region rfl ?_
    refine S.assignC rfl ?_
    refine S.assignC rfl ?_
    refine WS.done ?_
    refine WR.ret (ret2 rfl rfl rfl ?_)
    first | (exfalso; rw [c24] at c6; cases c6; done) | exact ⟨by rw [if_pos c24]; exact long_neg (by omega) h2.1 (by omega), hS2.drop⟩ | exact ⟨by rw [if_neg (by rw [c24]; decide)]; exact long_pos (by omega) h2.1 (by cases neg <;> simp_all <;> omega), hS2.drop⟩ | exact ⟨(told_out (by unfold fits; cases neg <;> simp_all <;> omega)).symm, hS2.drop⟩
  ·
    skip
    refine S.fieldB Try.underlying72 rfl ti47 rfl rfl rfl rfl ?_
    refine S.loadB (i := 0) hS2 rfl Try.underlying47 rfl rfl rfl rfl ?_
    refine S.gtr rfl rfl rfl ?_
    refine S.pickF rfl rfl ?_
    refine S.moveT rfl ?_
    refine S.splitD (d := 15) rfl (fun c15 => ?_) (fun c15 => ?_)
    ·
      skip
      refine S.off rfl ?_
      refine S.off rfl ?_
      refine S.off rfl ?_
      refine S.off rfl ?_
      refine S.off rfl ?_
      refine S.off rfl ?_
      refine S.off rfl ?_
      refine S.pickTC rfl rfl ?_
      refine S.assignT rfl ?_
      refine WS.done ?_
      refine WR.condT rfl ?_
      refine WR.seq ?_
      refine WR.region rfl ?_
      refine S.assignC rfl ?_
      refine S.assignC rfl ?_
      refine WS.done ?_
      refine WR.ret (ret2 rfl rfl rfl ?_)
      first | (exfalso; rw [c24] at c6; cases c6; done) | exact ⟨by rw [if_pos c24]; exact long_neg (by omega) h2.1 (by omega), hS2.drop⟩ | exact ⟨by rw [if_neg (by rw [c24]; decide)]; exact long_pos (by omega) h2.1 (by cases neg <;> simp_all <;> omega), hS2.drop⟩ | exact ⟨(told_out (by unfold fits; cases neg <;> simp_all <;> omega)).symm, hS2.drop⟩
    ·
      skip
      refine S.fieldB Try.underlying72 rfl ti47 rfl rfl rfl rfl ?_
      refine S.loadB (i := 0) hS2 rfl Try.underlying47 rfl rfl rfl rfl ?_
      refine S.eql rfl rfl rfl ?_
      refine S.moveT rfl ?_
      refine S.splitD (d := 19) rfl (fun c19 => ?_) (fun c19 => ?_)
      ·
        skip
        refine S.moveT rfl ?_
        refine S.not rfl rfl ?_
        refine S.pickT rfl rfl ?_
        refine S.pickF rfl rfl ?_
        refine S.assignT rfl ?_
        refine WS.done ?_
        refine WR.cond rfl (fun c6 => ?_) (fun c6 => ?_)
        ·
          skip
          refine WR.seq ?_
          refine WR.region rfl ?_
          refine S.assignC rfl ?_
          refine S.assignC rfl ?_
          refine WS.done ?_
          refine WR.ret (ret2 rfl rfl rfl ?_)
          first | (exfalso; rw [c24] at c6; cases c6; done) | exact ⟨by rw [if_pos c24]; exact long_neg (by omega) h2.1 (by omega), hS2.drop⟩ | exact ⟨by rw [if_neg (by rw [c24]; decide)]; exact long_pos (by omega) h2.1 (by cases neg <;> simp_all <;> omega), hS2.drop⟩ | exact ⟨(told_out (by unfold fits; cases neg <;> simp_all <;> omega)).symm, hS2.drop⟩
        ·
          skip
          refine WR.seq ?_
          refine WR.region rfl ?_
          refine S.moveT rfl ?_
          refine S.assignT rfl ?_
          refine WS.done ?_
          refine WR.cond rfl (fun c24 => ?_) (fun c24 => ?_)
          ·
            skip
            refine WR.seq ?_
            refine WR.region rfl ?_
            refine S.fieldB Try.underlying72 rfl ti47 rfl rfl rfl rfl ?_
            refine S.loadB (i := 0) hS2 rfl Try.underlying47 rfl rfl rfl rfl ?_
            refine S.neg rfl rfl ?_
            first
              | refine S.convN Try.underlying47 Try.underlying2 rfl rfl (wrap_i64 (by omega) (by omega)) ?_
              | refine S.conv Try.underlying47 Try.underlying2 rfl rfl ?_
            refine S.assignT rfl ?_
            refine S.assignC rfl ?_
            refine WS.done ?_
            refine WR.ret (ret2 rfl rfl rfl ?_)
            first | (exfalso; rw [c24] at c6; cases c6; done) | exact ⟨by rw [if_pos c24]; exact long_neg (by omega) h2.1 (by omega), hS2.drop⟩ | exact ⟨by rw [if_neg (by rw [c24]; decide)]; exact long_pos (by omega) h2.1 (by cases neg <;> simp_all <;> omega), hS2.drop⟩ | exact ⟨(told_out (by unfold fits; cases neg <;> simp_all <;> omega)).symm, hS2.drop⟩
          ·
            skip
            refine WR.skip ?_
            refine WR.seq ?_
            refine WR.region rfl ?_
            refine S.fieldB Try.underlying72 rfl ti47 rfl rfl rfl rfl ?_
            refine S.loadB (i := 0) hS2 rfl Try.underlying47 rfl rfl rfl rfl ?_
            first
              | refine S.convN Try.underlying47 Try.underlying2 rfl rfl (wrap_i64 (by omega) (by omega)) ?_
              | refine S.conv Try.underlying47 Try.underlying2 rfl rfl ?_
            refine S.assignT rfl ?_
            refine S.assignC rfl ?_
            refine WS.done ?_
            refine WR.ret (ret2 rfl rfl rfl ?_)
            first | (exfalso; rw [c24] at c6; cases c6; done) | exact ⟨by rw [if_pos c24]; exact long_neg (by omega) h2.1 (by omega), hS2.drop⟩ | exact ⟨by rw [if_neg (by rw [c24]; decide)]; exact long_pos (by omega) h2.1 (by cases neg <;> simp_all <;> omega), hS2.drop⟩ | exact ⟨(told_out (by unfold fits; cases neg <;> simp_all <;> omega)).symm, hS2.drop⟩
      ·
        skip
        refine S.off rfl ?_
        refine S.off rfl ?_
        refine S.pickFC rfl rfl ?_
        refine S.pickF rfl rfl ?_
        refine S.assignT rfl ?_
        refine WS.done ?_
        refine WR.condF rfl ?_
        refine WR.seq ?_
        refine WR.region rfl ?_
        refine S.moveT rfl ?_
        refine S.assignT rfl ?_
        refine WS.done ?_
        refine WR.cond rfl (fun c24 => ?_) (fun c24 => ?_)
        ·
          skip
          refine WR.seq ?_
          refine WR.region rfl ?_
          refine S.fieldB Try.underlying72 rfl ti47 rfl rfl rfl rfl ?_
          refine S.loadB (i := 0) hS2 rfl Try.underlying47 rfl rfl rfl rfl ?_
          refine S.neg rfl rfl ?_
          first
            | refine S.convN Try.underlying47 Try.underlying2 rfl rfl (wrap_i64 (by omega) (by omega)) ?_
            | refine S.conv Try.underlying47 Try.underlying2 rfl rfl ?_
          refine S.assignT rfl ?_
          refine S.assignC rfl ?_
          refine WS.done ?_
          refine WR.ret (ret2 rfl rfl rfl ?_)
          first | (exfalso; rw [c24] at c6; cases c6; done) | exact ⟨by rw [if_pos c24]; exact long_neg (by omega) h2.1 (by omega), hS2.drop⟩ | exact ⟨by rw [if_neg (by rw [c24]; decide)]; exact long_pos (by omega) h2.1 (by cases neg <;> simp_all <;> omega), hS2.drop⟩ | exact ⟨(told_out (by unfold fits; cases neg <;> simp_all <;> omega)).symm, hS2.drop⟩
        ·
          skip
          refine WR.skip ?_
          refine WR.seq ?_
          refine WR.region rfl ?_
          refine S.fieldB Try.underlying72 rfl ti47 rfl rfl rfl rfl ?_
          refine S.loadB (i := 0) hS2 rfl Try.underlying47 rfl rfl rfl rfl ?_
          first
            | refine S.convN Try.underlying47 Try.underlying2 rfl rfl (wrap_i64 (by omega) (by omega)) ?_
            | refine S.conv Try.underlying47 Try.underlying2 rfl rfl ?_
          refine S.assignT rfl ?_
          refine S.assignC rfl ?_
          refine WS.done ?_
          refine WR.ret (ret2 rfl rfl rfl ?_)
          first | (exfalso; rw [c24] at c6; cases c6; done) | exact ⟨by rw [if_pos c24]; exact long_neg (by omega) h2.1 (by omega), hS2.drop⟩ | exact ⟨by rw [if_neg (by rw [c24]; decide)]; exact long_pos (by omega) h2.1 (by cases neg <;> simp_all <;> omega), hS2.drop⟩ | exact ⟨(told_out (by unfold fits; cases neg <;> simp_all <;> omega)).symm, hS2.drop⟩

set_option maxRecDepth 100000 in
set_option maxHeartbeats 4000000 in
theorem s_product {w : World} {R : Kn} {L : List HP}  (hS : St w R (L)) {a b : Int} (ha : fits a) (hb : fits b) :
    Fn Try.prog 40 #[.int .i64 a, .int .i64 b] w (fun v w' => v = .tuple #[.agg #[.int .u64 (mag a * mag b / 18446744073709551616), .int .u64 (mag a * mag b % 18446744073709551616)], .bool (!(decide (a < 0) == decide (b < 0)))] ∧ St w' R L) := by
  have na := mag_nonneg a
  have nb := mag_nonneg b
  have la := mag_le ha
  have lb := mag_le hb
  refine Fn.intro (n := 34) Try.func40 rfl rfl rfl ?_
  refine WR.seq ?_
  refine WR.region rfl ?_
  refine S.alloc hS ti72 rfl rfl ?_
  intro b4 w4 hS4; clear hS
  refine S.assignC rfl ?_
  refine WS.done ?_
  refine WR.seq ?_
  refine WR.region rfl ?_
  refine S.moveT rfl ?_
  refine S.call ent54 rfl (s_magnitude hS4 (by assumption)) rfl ?_
  rintro _ w14 ⟨rfl, hS14⟩
  clear hS4
  refine S.moveT rfl ?_
  refine S.extract rfl rfl rfl ?_
  refine S.extract rfl rfl rfl ?_
  refine S.assignT rfl ?_
  refine S.assignT rfl ?_
  refine WS.done ?_
  refine WR.seq ?_
  refine WR.region rfl ?_
  refine S.moveT rfl ?_
  refine S.call ent54 rfl (s_magnitude hS14 (by assumption)) rfl ?_
  rintro _ w19 ⟨rfl, hS19⟩
  clear hS14
  refine S.moveT rfl ?_
  refine S.extract rfl rfl rfl ?_
  refine S.extract rfl rfl rfl ?_
  refine S.assignT rfl ?_
  refine S.assignT rfl ?_
  refine WS.done ?_
  refine WR.seq ?_
  refine WR.region rfl ?_
  refine S.moveT rfl ?_
  refine S.moveT rfl ?_
  refine S.call ent55 rfl (s_mul64 hS19 (by omega) (by omega)) rfl ?_
  rintro _ w25 ⟨rfl, hS25⟩
  clear hS19
  refine S.moveT rfl ?_
  refine S.extract rfl rfl rfl ?_
  refine S.extract rfl rfl rfl ?_
  refine S.assignT rfl ?_
  refine S.assignT rfl ?_
  refine WS.done ?_
  refine WR.seq ?_
  refine WR.region rfl ?_
  refine S.moveT rfl ?_
  refine S.moveT rfl ?_
  refine S.buildStruct [.int _ _, .int _ _] [(0, 1), (1, 1)] Try.underlying72 ti72 rfl (by kernel_rfl) rfl rfl rfl rfl rfl rfl ?_
  refine S.moveT rfl ?_
  refine S.moveT rfl ?_
  refine S.neqB Try.underlying4 rfl rfl rfl ?_
  refine S.storeB (i := 0) hS25 rfl ti72 rfl rfl rfl rfl rfl rfl rfl rfl ?_
  intro w2001 hS2001; clear hS25
  refine S.assignT rfl ?_
  refine WS.done ?_
  refine WR.ret (retC1 rfl rfl (run_loadBA (i := 0) hS2001 rfl Try.underlying72 rfl ti72 rfl rfl) rfl ?_)
  exact ⟨rfl, hS2001.drop⟩

set_option maxRecDepth 100000 in
set_option maxHeartbeats 4000000 in
theorem s_mul {w : World} {R : Kn} {L : List HP}  (hS : St w R (L)) {a b : Int} (ha : fits a) (hb : fits b) :
    Fn Try.prog 24 #[.int .i64 a, .int .i64 b] w (fun v w' => v = told (a * b) ∧ St w' R L) := by
  have hP := prod64 (mag_nonneg a) (mag_nonneg b) (mag_le ha) (mag_le hb)
  refine Fn.intro (n := 19) Try.func24 rfl rfl rfl ?_
  refine WR.seq ?_
  refine WR.region rfl ?_
  refine S.assignC rfl ?_
  refine S.assignC rfl ?_
  refine WS.done ?_
  refine WR.seq ?_
  refine WR.region rfl ?_
  refine S.moveT rfl ?_
  refine S.moveT rfl ?_
  refine S.call ent40 rfl (s_product hS (by assumption) (by assumption)) rfl ?_
  rintro _ w11 ⟨rfl, hS11⟩
  clear hS
  refine S.moveT rfl ?_
  refine S.extract rfl rfl rfl ?_
  refine S.extract rfl rfl rfl ?_
  refine S.alloc hS11 ti72 rfl rfl ?_
  intro b6 w6 hS6; clear hS11
  refine S.storeB (i := 0) hS6 rfl ti72 rfl rfl rfl rfl rfl rfl rfl rfl ?_
  intro w2001 hS2001; clear hS6
  refine S.assignT rfl ?_
  refine WS.done ?_
  refine WR.seq ?_
  refine WR.region rfl ?_
  refine S.loadBA (i := 0) hS2001 rfl Try.underlying72 rfl ti72 rfl rfl rfl rfl ?_
  refine S.moveT rfl ?_
  refine S.call ent41 rfl (s_long hS2001 (by omega) (by omega)) rfl ?_
  rintro _ w16 ⟨rfl, hS16⟩
  clear hS2001
  refine S.extract rfl rfl rfl ?_
  refine S.extract rfl rfl rfl ?_
  refine S.assignT rfl ?_
  refine S.assignT rfl ?_
  refine WS.done ?_
  refine WR.ret (ret2 rfl rfl rfl ?_)
  exact ⟨congrArg told (long_prod a b), hS16.drop⟩

set_option maxRecDepth 100000 in
set_option maxHeartbeats 4000000 in
theorem s_div64 {w : World} {R : Kn} {L : List HP}  (hS : St w R (L)) {hi lo y : Int} (h0 : 0 ≤ hi ∧ hi < y) (hy : y < 18446744073709551616) (hlo : 0 ≤ lo ∧ lo < 18446744073709551616) :
    Fn Try.prog 50 #[.int .u64 hi, .int .u64 lo, .int .u64 y] w (fun v w' => v = .tuple #[.int .u64 ((hi * 18446744073709551616 + lo) / y), .int .u64 ((hi * 18446744073709551616 + lo) % y)] ∧ St w' R L) := by
  refine Fn.intro (n := 135) Try.func50 rfl rfl rfl ?_
  refine WR.seq ?_
  refine WR.region rfl ?_
  refine S.assignC rfl ?_
  refine S.assignC rfl ?_
  refine WS.done ?_
  refine WR.seq ?_
  refine WR.seq ?_
  refine WR.region rfl ?_
  refine S.moveT rfl ?_
  refine S.eql rfl rfl rfl ?_
  refine S.isFD (d := 20) rfl (by omega) ?_
  refine WS.done ?_
  refine WR.condF rfl ?_
  refine WR.skip ?_
  refine WR.seq ?_
  refine WR.seq ?_
  refine WR.region rfl ?_
  refine S.moveT rfl ?_
  refine S.moveT rfl ?_
  refine S.leq rfl rfl rfl ?_
  refine S.isFD (d := 24) rfl (by omega) ?_
  refine WS.done ?_
  refine WR.condF rfl ?_
  refine WR.skip ?_
  refine WR.seq ?_
  refine WR.seq ?_
  refine WR.region rfl ?_
  refine S.moveT rfl ?_
  refine S.eql rfl rfl rfl ?_
  refine WS.done ?_
  refine WR.condD rfl (fun c27 => ?_) (fun c27 => ?_)
  ·
    skip
    refine WR.seq ?_
    refine WR.regionQ mixed hS (by kernel_rfl) rfl ?_
    refine Q.moveT rfl ?_
    refine Q.moveT rfl ?_
    refine Q.quoU rfl rfl (by omega) (by omega) rfl ?_
    refine Q.moveT rfl ?_
    refine Q.moveT rfl ?_
    first
      | refine Q.remN rfl rfl (by omega) (by omega) rfl ?_
      | refine Q.rem rfl rfl (by omega) rfl ?_
    refine Q.assignT rfl ?_
    refine Q.assignT rfl ?_
    refine WQ.done ?_
    intro w5001 hS5001
    clear hS
    refine WR.ret (ret2 rfl rfl rfl ?_)
    exact ⟨tup2 (congrArg (Value.int .u64) (by rw [c27, Int.zero_mul, Int.zero_add])) (congrArg (Value.int .u64) (by rw [c27, Int.zero_mul, Int.zero_add])), hS5001⟩
  ·
    skip
    refine WR.skip ?_
    refine WR.seq ?_
    refine WR.region rfl ?_
    refine S.moveT rfl ?_
    refine S.call ent57 rfl (s_lz64 hS (by omega)) rfl ?_
    rintro _ w35 ⟨rfl, hS35⟩
    clear hS
    obtain ⟨s, p, g, hs, hU⟩ := Up.of (hi := hi) (lo := lo) (show 0 < y by omega) hy
    refine S.as (d := 35) rfl (congrArg (Value.int .i64) hs) ?_
    have hs63 := hU.le
    have hp1 := hU.p1
    first
      | refine S.convN Try.underlying3 Try.underlying81 rfl rfl (wrap_u64 (by omega) (by omega)) ?_
      | refine S.conv Try.underlying3 Try.underlying81 rfl rfl ?_
    refine S.assignT rfl ?_
    refine WS.done ?_
    refine WR.seq ?_
    refine WR.region rfl ?_
    refine S.moveT rfl ?_
    refine S.moveT rfl ?_
    refine S.shl rfl rfl (by omega) rfl ?_
    refine S.as (d := 39) rfl (congrArg (Value.int .u64) (hU.shl (by omega) hU.y2)) ?_
    obtain ⟨hY1, hY2⟩ := hU.big
    obtain ⟨Y, hY⟩ : ∃ Y, y * p = Y := ⟨_, rfl⟩
    refine S.as (d := 39) rfl (congrArg (Value.int .u64) hY) ?_
    rw [hY] at hY1 hY2
    refine S.assignT rfl ?_
    refine WS.done ?_
    refine WR.seq ?_
    refine WR.region rfl ?_
    refine S.moveT rfl ?_
    refine S.shrC (q := 4294967296) rfl rfl rfl (by decide) rfl rfl ?_
    refine S.assignT rfl ?_
    refine WS.done ?_
    refine WR.seq ?_
    refine WR.region rfl ?_
    refine S.moveT rfl ?_
    refine S.andLow rfl rfl rfl (by omega) ?_
    refine S.assignT rfl ?_
    refine WS.done ?_
    refine WR.seq ?_
    refine WR.region rfl ?_
    obtain ⟨u, v, hu, hv, hM, hu0, hu1, hv0, hv1⟩ := hU.words h0 hlo
    rw [hY] at hu1
    refine S.moveT rfl ?_
    refine S.moveT rfl ?_
    refine S.shl rfl rfl (by omega) rfl ?_
    refine S.as (d := 46) rfl (congrArg (Value.int .u64) (hU.shl h0.1 (by have := hU.y2; omega))) ?_
    refine S.moveT rfl ?_
    refine S.moveT rfl ?_
    first
      | refine S.subU rfl rfl rfl (by omega) ?_
      | refine S.sub rfl rfl rfl ?_
    refine S.shr rfl rfl (by omega) rfl ?_
    refine S.as (d := 50) rfl (congrArg (Value.int .u64) hU.shr') ?_
    refine S.or rfl rfl rfl ?_
    refine S.as (d := 51) rfl (congrArg (Value.int .u64) hu) ?_
    refine S.assignT rfl ?_
    refine WS.done ?_
    refine WR.seq ?_
    refine WR.region rfl ?_
    refine S.moveT rfl ?_
    refine S.moveT rfl ?_
    refine S.shl rfl rfl (by omega) rfl ?_
    refine S.as (d := 54) rfl (congrArg (Value.int .u64) hv) ?_
    refine S.assignT rfl ?_
    refine WS.done ?_
    refine WR.seq ?_
    refine WR.region rfl ?_
    refine S.moveT rfl ?_
    refine S.shrC (q := 4294967296) rfl rfl rfl (by decide) rfl rfl ?_
    refine S.assignT rfl ?_
    refine WS.done ?_
    refine WR.seq ?_
    refine WR.region rfl ?_
    refine S.moveT rfl ?_
    refine S.andLow rfl rfl rfl (by omega) ?_
    refine S.assignT rfl ?_
    refine WS.done ?_
    refine WR.seq ?_
    refine WR.region rfl ?_
    refine S.moveT rfl ?_
    refine S.moveT rfl ?_
    have hK1 := KnP.of hY1 hY2 hu0 hu1 (show 0 ≤ v / 4294967296 by omega) (by omega)
    have hqm1 := quo_mul hu0 (show 0 < Y / 4294967296 by omega)
    refine S.quoU rfl rfl (by omega) (by omega) rfl ?_
    refine S.assignT rfl ?_
    refine WS.done ?_
    refine WR.seq ?_
    refine WR.region rfl ?_
    refine S.moveT rfl ?_
    refine S.moveT rfl ?_
    refine S.moveT rfl ?_
    first
      | refine S.mulU rfl rfl rfl (by omega) ?_
      | refine S.mul rfl rfl rfl ?_
    first
      | refine S.subU rfl rfl rfl (by omega) ?_
      | refine S.sub rfl rfl rfl ?_
    refine S.assignT rfl ?_
    refine WS.done ?_
    refine WR.seq ?_
    refine WR.block ?_
    refine WR.loopE (fun rq mm rr wr => ∃ (q r : Int), mm = q.toNat ∧ (Kn1 (Y / 4294967296) (Y % 4294967296) u (v / 4294967296) q r) ∧ rr 15 = .int .u64 q ∧ rr 16 = .int .u64 r ∧ Agr [2, 8, 9, 10, 11, 13, 14] rr rq ∧ St wr R L) ⟨_, _, rfl, (by exact hK1.start), rfl, rfl, ⟨rfl, rfl, rfl, rfl, rfl, rfl, rfl, trivial⟩, hS35⟩ ?_
    rintro mm rr w1001 ⟨q, r, hm1001, hF, hr1001_15, hr1001_16, hA1001, hS1001⟩
    obtain ⟨rr, rfl⟩ := agrBack hA1001
    clear hA1001
    obtain ⟨rr, rfl⟩ := back2 (r := rr) hr1001_15 hr1001_16
    clear hr1001_15 hr1001_16
    have hq0 := hF.nonneg hK1
    have hr0 := hF.rlo
    have hr1 := hF.rhi
    have hqm := hF.most
    refine WR.seq ?_
    refine WR.seq ?_
    refine WR.region rfl ?_
    refine S.moveT rfl ?_
    refine S.geq rfl rfl rfl ?_
    refine S.moveT rfl ?_
    refine S.splitD (d := 69) rfl (fun c69 => ?_) (fun c69 => ?_)
    ·
      skip
      refine S.off rfl ?_
      refine S.off rfl ?_
      refine S.off rfl ?_
      refine S.off rfl ?_
      refine S.off rfl ?_
      refine S.off rfl ?_
      refine S.off rfl ?_
      refine S.off rfl ?_
      refine S.pickTC rfl rfl ?_
      refine WS.done ?_
      refine WR.condT rfl ?_
      refine WR.skip ?_
      refine WR.block ?_
      refine WR.seq ?_
      refine WR.region rfl ?_
      refine S.moveT rfl ?_
      have hc1 : 4294967296 ≤ q ∨ 4294967296 * r + v / 4294967296 < q * (Y % 4294967296) := by first | exact Or.inl c69 | exact Or.inr c78
      have hqp := hF.pos hK1 hc1
      first
        | refine S.subU rfl rfl rfl (by omega) ?_
        | refine S.sub rfl rfl rfl ?_
      refine S.assignT rfl ?_
      refine WS.done ?_
      refine WR.seq ?_
      refine WR.region rfl ?_
      refine S.moveT rfl ?_
      refine S.moveT rfl ?_
      first
        | refine S.addU rfl rfl rfl (by omega) ?_
        | refine S.add rfl rfl rfl ?_
      refine S.assignT rfl ?_
      refine WS.done ?_
      refine WR.seq ?_
      refine WR.region rfl ?_
      refine S.moveT rfl ?_
      refine S.geq rfl rfl rfl ?_
      refine WS.done ?_
      refine WR.condD rfl (fun c85 => ?_) (fun c85 => ?_)
      ·
        skip
        refine WR.exit ?_
        refine WR.seq ?_
        refine WR.region rfl ?_
        have hYe : Y / 4294967296 * 4294967296 + Y % 4294967296 = Y := by omega
        obtain ⟨Q1, hQ1⟩ : ∃ Q1, Q1 = (u * 4294967296 + v / 4294967296) / (Y / 4294967296 * 4294967296 + Y % 4294967296) := ⟨_, rfl⟩
        refine S.as (d := 15) rfl (congrArg (Value.int .u64) ((by first | exact hF.done1 hK1 c78 | exact hF.done2 hK1 hc1 c85 : _ = _).trans hQ1.symm)) ?_
        have hQ1b := hK1.quot
        rw [← hQ1] at hQ1b
        clear hF
        refine S.moveT rfl ?_
        refine S.mul rfl rfl rfl ?_
        refine S.moveT rfl ?_
        refine S.add rfl rfl rfl ?_
        refine S.moveT rfl ?_
        refine S.moveT rfl ?_
        refine S.mul rfl rfl rfl ?_
        refine S.sub rfl rfl rfl ?_
        rw [hYe] at hQ1
        obtain ⟨hR1a, hR1b⟩ := rest_of (show 0 < Y by omega) hQ1
        obtain ⟨R1, hR1⟩ : ∃ R1, R1 = u * 4294967296 + v / 4294967296 - Q1 * Y := ⟨_, rfl⟩
        rw [← hR1] at hR1a hR1b
        refine S.as (d := 93) rfl (congrArg (Value.int .u64) (wrap3 hR1 hR1a (by omega))) ?_
        refine S.assignT rfl ?_
        refine WS.done ?_
        refine WR.seq ?_
        refine WR.region rfl ?_
        refine S.moveT rfl ?_
        refine S.moveT rfl ?_
        have hK2 := KnP.of hY1 hY2 hR1a hR1b (show 0 ≤ v % 4294967296 by omega) (by omega)
        have hqm2 := quo_mul hR1a (show 0 < Y / 4294967296 by omega)
        refine S.quoU rfl rfl (by omega) (by omega) rfl ?_
        refine S.assignT rfl ?_
        refine WS.done ?_
        refine WR.seq ?_
        refine WR.region rfl ?_
        refine S.moveT rfl ?_
        refine S.moveT rfl ?_
        refine S.moveT rfl ?_
        first
          | refine S.mulU rfl rfl rfl (by omega) ?_
          | refine S.mul rfl rfl rfl ?_
        first
          | refine S.subU rfl rfl rfl (by omega) ?_
          | refine S.sub rfl rfl rfl ?_
        refine S.assignT rfl ?_
        refine WS.done ?_
        refine WR.seq ?_
        refine WR.block ?_
        refine WR.loopE (fun rq mm rr wr => ∃ (q r : Int), mm = q.toNat ∧ (Kn1 (Y / 4294967296) (Y % 4294967296) R1 (v % 4294967296) q r) ∧ rr 16 = .int .u64 r ∧ rr 18 = .int .u64 q ∧ Agr [2, 8, 9, 10, 14, 15, 17] rr rq ∧ St wr R L) ⟨_, _, rfl, (by exact hK2.start), rfl, rfl, ⟨rfl, rfl, rfl, rfl, rfl, rfl, rfl, trivial⟩, hS1001⟩ ?_
        rintro mm rr w1002 ⟨q, r, hm1002, hG, hr1002_16, hr1002_18, hA1002, hS1002⟩
        obtain ⟨rr, rfl⟩ := agrBack hA1002
        clear hA1002
        obtain ⟨rr, rfl⟩ := back2 (r := rr) hr1002_16 hr1002_18
        clear hr1002_16 hr1002_18
        have hq0 := hG.nonneg hK2
        have hr0 := hG.rlo
        have hr1 := hG.rhi
        have hqm := hG.most
        refine WR.seq ?_
        refine WR.seq ?_
        refine WR.region rfl ?_
        refine S.moveT rfl ?_
        refine S.geq rfl rfl rfl ?_
        refine S.moveT rfl ?_
        refine S.splitD (d := 104) rfl (fun c104 => ?_) (fun c104 => ?_)
        ·
          skip
          refine S.off rfl ?_
          refine S.off rfl ?_
          refine S.off rfl ?_
          refine S.off rfl ?_
          refine S.off rfl ?_
          refine S.off rfl ?_
          refine S.off rfl ?_
          refine S.off rfl ?_
          refine S.pickTC rfl rfl ?_
          refine WS.done ?_
          refine WR.condT rfl ?_
          refine WR.skip ?_
          refine WR.block ?_
          refine WR.seq ?_
          refine WR.region rfl ?_
          refine S.moveT rfl ?_
          have hc2 : 4294967296 ≤ q ∨ 4294967296 * r + v % 4294967296 < q * (Y % 4294967296) := by first | exact Or.inl c104 | exact Or.inr c113
          have hqp := hG.pos hK2 hc2
          first
            | refine S.subU rfl rfl rfl (by omega) ?_
            | refine S.sub rfl rfl rfl ?_
          refine S.assignT rfl ?_
          refine WS.done ?_
          refine WR.seq ?_
          refine WR.region rfl ?_
          refine S.moveT rfl ?_
          refine S.moveT rfl ?_
          first
            | refine S.addU rfl rfl rfl (by omega) ?_
            | refine S.add rfl rfl rfl ?_
          refine S.assignT rfl ?_
          refine WS.done ?_
          refine WR.seq ?_
          refine WR.region rfl ?_
          refine S.moveT rfl ?_
          refine S.geq rfl rfl rfl ?_
          refine WS.done ?_
          refine WR.condD rfl (fun c120 => ?_) (fun c120 => ?_)
          ·
            skip
            refine WR.exit ?_
            refine WR.seq ?_
            refine WR.region rfl ?_
            obtain ⟨Q0, hQ0⟩ : ∃ Q0, Q0 = (R1 * 4294967296 + v % 4294967296) / (Y / 4294967296 * 4294967296 + Y % 4294967296) := ⟨_, rfl⟩
            refine S.as (d := 18) rfl (congrArg (Value.int .u64) ((by first | exact hG.done1 hK2 c113 | exact hG.done2 hK2 hc2 c120 : _ = _).trans hQ0.symm)) ?_
            have hQ0b := hK2.quot
            rw [← hQ0] at hQ0b
            clear hG
            refine S.moveT rfl ?_
            first
              | refine S.mulU rfl rfl rfl (by omega) ?_
              | refine S.mul rfl rfl rfl ?_
            refine S.moveT rfl ?_
            first
              | refine S.addU rfl rfl rfl (by omega) ?_
              | refine S.add rfl rfl rfl ?_
            refine S.moveT rfl ?_
            refine S.mul rfl rfl rfl ?_
            refine S.moveT rfl ?_
            refine S.add rfl rfl rfl ?_
            refine S.moveT rfl ?_
            refine S.moveT rfl ?_
            refine S.mul rfl rfl rfl ?_
            refine S.sub rfl rfl rfl ?_
            rw [hYe] at hQ0
            obtain ⟨hR0a, hR0b⟩ := rest_of (show 0 < Y by omega) hQ0
            obtain ⟨R0, hR0⟩ : ∃ R0, R0 = R1 * 4294967296 + v % 4294967296 - Q0 * Y := ⟨_, rfl⟩
            rw [← hR0] at hR0a hR0b
            refine S.as (d := 132) rfl (congrArg (Value.int .u64) (wrap3 hR0 hR0a (by omega))) ?_
            refine S.moveT rfl ?_
            refine S.shr rfl rfl (by omega) rfl ?_
            refine S.as (d := 134) rfl (congrArg (Value.int .u64) hU.shr) ?_
            subst hY
            obtain ⟨hfin1, hfin2⟩ := knuth (show 0 < y by omega) (show 0 < p by omega) (hM.trans (by omega)) hQ1 hR1 hQ0 hR0
            refine S.assignT rfl ?_
            refine S.assignT rfl ?_
            refine WS.done ?_
            refine WR.ret (ret2 rfl rfl rfl ?_)
            exact ⟨tup2 (congrArg (Value.int .u64) hfin1) (congrArg (Value.int .u64) hfin2), hS1002⟩
          ·
            skip
            refine WR.skip ?_
            exact ⟨_, (by omega), ⟨q - 1, r + Y / 4294967296, rfl, (by exact hG.step hK2 hc2 (by omega)), rfl, rfl, ⟨rfl, rfl, rfl, rfl, rfl, rfl, rfl, trivial⟩, hS1002⟩⟩
        ·
          skip
          refine S.moveT rfl ?_
          refine S.moveT rfl ?_
          have hpq := prod_bound q (Y % 4294967296) hq0 (by omega) (by omega) (by omega)
          first
            | refine S.mulU rfl rfl rfl (by omega) ?_
            | refine S.mul rfl rfl rfl ?_
          refine S.moveT rfl ?_
          first
            | refine S.mulU rfl rfl rfl (by omega) ?_
            | refine S.mul rfl rfl rfl ?_
          refine S.moveT rfl ?_
          first
            | refine S.addU rfl rfl rfl (by omega) ?_
            | refine S.add rfl rfl rfl ?_
          refine S.gtr rfl rfl rfl ?_
          refine S.pickF rfl rfl ?_
          refine WS.done ?_
          refine WR.condD rfl (fun c113 => ?_) (fun c113 => ?_)
          ·
            skip
            refine WR.skip ?_
            refine WR.block ?_
            refine WR.seq ?_
            refine WR.region rfl ?_
            refine S.moveT rfl ?_
            have hc2 : 4294967296 ≤ q ∨ 4294967296 * r + v % 4294967296 < q * (Y % 4294967296) := by first | exact Or.inl c104 | exact Or.inr c113
            have hqp := hG.pos hK2 hc2
            first
              | refine S.subU rfl rfl rfl (by omega) ?_
              | refine S.sub rfl rfl rfl ?_
            refine S.assignT rfl ?_
            refine WS.done ?_
            refine WR.seq ?_
            refine WR.region rfl ?_
            refine S.moveT rfl ?_
            refine S.moveT rfl ?_
            first
              | refine S.addU rfl rfl rfl (by omega) ?_
              | refine S.add rfl rfl rfl ?_
            refine S.assignT rfl ?_
            refine WS.done ?_
            refine WR.seq ?_
            refine WR.region rfl ?_
            refine S.moveT rfl ?_
            refine S.geq rfl rfl rfl ?_
            refine WS.done ?_
            refine WR.condD rfl (fun c120 => ?_) (fun c120 => ?_)
            ·
              skip
              refine WR.exit ?_
              refine WR.seq ?_
              refine WR.region rfl ?_
              obtain ⟨Q0, hQ0⟩ : ∃ Q0, Q0 = (R1 * 4294967296 + v % 4294967296) / (Y / 4294967296 * 4294967296 + Y % 4294967296) := ⟨_, rfl⟩
              refine S.as (d := 18) rfl (congrArg (Value.int .u64) ((by first | exact hG.done1 hK2 c113 | exact hG.done2 hK2 hc2 c120 : _ = _).trans hQ0.symm)) ?_
              have hQ0b := hK2.quot
              rw [← hQ0] at hQ0b
              clear hG
              refine S.moveT rfl ?_
              first
                | refine S.mulU rfl rfl rfl (by omega) ?_
                | refine S.mul rfl rfl rfl ?_
              refine S.moveT rfl ?_
              first
                | refine S.addU rfl rfl rfl (by omega) ?_
                | refine S.add rfl rfl rfl ?_
              refine S.moveT rfl ?_
              refine S.mul rfl rfl rfl ?_
              refine S.moveT rfl ?_
              refine S.add rfl rfl rfl ?_
              refine S.moveT rfl ?_
              refine S.moveT rfl ?_
              refine S.mul rfl rfl rfl ?_
              refine S.sub rfl rfl rfl ?_
              rw [hYe] at hQ0
              obtain ⟨hR0a, hR0b⟩ := rest_of (show 0 < Y by omega) hQ0
              obtain ⟨R0, hR0⟩ : ∃ R0, R0 = R1 * 4294967296 + v % 4294967296 - Q0 * Y := ⟨_, rfl⟩
              rw [← hR0] at hR0a hR0b
              refine S.as (d := 132) rfl (congrArg (Value.int .u64) (wrap3 hR0 hR0a (by omega))) ?_
              refine S.moveT rfl ?_
              refine S.shr rfl rfl (by omega) rfl ?_
              refine S.as (d := 134) rfl (congrArg (Value.int .u64) hU.shr) ?_
              subst hY
              obtain ⟨hfin1, hfin2⟩ := knuth (show 0 < y by omega) (show 0 < p by omega) (hM.trans (by omega)) hQ1 hR1 hQ0 hR0
              refine S.assignT rfl ?_
              refine S.assignT rfl ?_
              refine WS.done ?_
              refine WR.ret (ret2 rfl rfl rfl ?_)
              exact ⟨tup2 (congrArg (Value.int .u64) hfin1) (congrArg (Value.int .u64) hfin2), hS1002⟩
            ·
              skip
              refine WR.skip ?_
              exact ⟨_, (by omega), ⟨q - 1, r + Y / 4294967296, rfl, (by exact hG.step hK2 hc2 (by omega)), rfl, rfl, ⟨rfl, rfl, rfl, rfl, rfl, rfl, rfl, trivial⟩, hS1002⟩⟩
          ·
            skip
            refine WR.exit ?_
            refine WR.seq ?_
            refine WR.region rfl ?_
            obtain ⟨Q0, hQ0⟩ : ∃ Q0, Q0 = (R1 * 4294967296 + v % 4294967296) / (Y / 4294967296 * 4294967296 + Y % 4294967296) := ⟨_, rfl⟩
            refine S.as (d := 18) rfl (congrArg (Value.int .u64) ((by first | exact hG.done1 hK2 c113 | exact hG.done2 hK2 hc2 c120 : _ = _).trans hQ0.symm)) ?_
            have hQ0b := hK2.quot
            rw [← hQ0] at hQ0b
            clear hG
            refine S.moveT rfl ?_
            first
              | refine S.mulU rfl rfl rfl (by omega) ?_
              | refine S.mul rfl rfl rfl ?_
            refine S.moveT rfl ?_
            first
              | refine S.addU rfl rfl rfl (by omega) ?_
              | refine S.add rfl rfl rfl ?_
            refine S.moveT rfl ?_
            refine S.mul rfl rfl rfl ?_
            refine S.moveT rfl ?_
            refine S.add rfl rfl rfl ?_
            refine S.moveT rfl ?_
            refine S.moveT rfl ?_
            refine S.mul rfl rfl rfl ?_
            refine S.sub rfl rfl rfl ?_
            rw [hYe] at hQ0
            obtain ⟨hR0a, hR0b⟩ := rest_of (show 0 < Y by omega) hQ0
            obtain ⟨R0, hR0⟩ : ∃ R0, R0 = R1 * 4294967296 + v % 4294967296 - Q0 * Y := ⟨_, rfl⟩
            rw [← hR0] at hR0a hR0b
            refine S.as (d := 132) rfl (congrArg (Value.int .u64) (wrap3 hR0 hR0a (by omega))) ?_
            refine S.moveT rfl ?_
            refine S.shr rfl rfl (by omega) rfl ?_
            refine S.as (d := 134) rfl (congrArg (Value.int .u64) hU.shr) ?_
            subst hY
            obtain ⟨hfin1, hfin2⟩ := knuth (show 0 < y by omega) (show 0 < p by omega) (hM.trans (by omega)) hQ1 hR1 hQ0 hR0
            refine S.assignT rfl ?_
            refine S.assignT rfl ?_
            refine WS.done ?_
            refine WR.ret (ret2 rfl rfl rfl ?_)
            exact ⟨tup2 (congrArg (Value.int .u64) hfin1) (congrArg (Value.int .u64) hfin2), hS1002⟩
      ·
        skip
        refine WR.skip ?_
        exact ⟨_, (by omega), ⟨q - 1, r + Y / 4294967296, rfl, (by exact hF.step hK1 hc1 (by omega)), rfl, rfl, ⟨rfl, rfl, rfl, rfl, rfl, rfl, rfl, trivial⟩, hS1001⟩⟩
    ·
      skip
      refine S.moveT rfl ?_
      refine S.moveT rfl ?_
      have hpq := prod_bound q (Y % 4294967296) hq0 (by omega) (by omega) (by omega)
      first
        | refine S.mulU rfl rfl rfl (by omega) ?_
        | refine S.mul rfl rfl rfl ?_
      refine S.moveT rfl ?_
      first
        | refine S.mulU rfl rfl rfl (by omega) ?_
        | refine S.mul rfl rfl rfl ?_
      refine S.moveT rfl ?_
      first
        | refine S.addU rfl rfl rfl (by omega) ?_
        | refine S.add rfl rfl rfl ?_
      refine S.gtr rfl rfl rfl ?_
      refine S.pickF rfl rfl ?_
      refine WS.done ?_
      refine WR.condD rfl (fun c78 => ?_) (fun c78 => ?_)
      ·
        skip
        refine WR.skip ?_
        refine WR.block ?_
        refine WR.seq ?_
        refine WR.region rfl ?_
        refine S.moveT rfl ?_
        have hc1 : 4294967296 ≤ q ∨ 4294967296 * r + v / 4294967296 < q * (Y % 4294967296) := by first | exact Or.inl c69 | exact Or.inr c78
        have hqp := hF.pos hK1 hc1
        first
          | refine S.subU rfl rfl rfl (by omega) ?_
          | refine S.sub rfl rfl rfl ?_
        refine S.assignT rfl ?_
        refine WS.done ?_
        refine WR.seq ?_
        refine WR.region rfl ?_
        refine S.moveT rfl ?_
        refine S.moveT rfl ?_
        first
          | refine S.addU rfl rfl rfl (by omega) ?_
          | refine S.add rfl rfl rfl ?_
        refine S.assignT rfl ?_
        refine WS.done ?_
        refine WR.seq ?_
        refine WR.region rfl ?_
        refine S.moveT rfl ?_
        refine S.geq rfl rfl rfl ?_
        refine WS.done ?_
        refine WR.condD rfl (fun c85 => ?_) (fun c85 => ?_)
        ·
          skip
          refine WR.exit ?_
          refine WR.seq ?_
          refine WR.region rfl ?_
          have hYe : Y / 4294967296 * 4294967296 + Y % 4294967296 = Y := by omega
          obtain ⟨Q1, hQ1⟩ : ∃ Q1, Q1 = (u * 4294967296 + v / 4294967296) / (Y / 4294967296 * 4294967296 + Y % 4294967296) := ⟨_, rfl⟩
          refine S.as (d := 15) rfl (congrArg (Value.int .u64) ((by first | exact hF.done1 hK1 c78 | exact hF.done2 hK1 hc1 c85 : _ = _).trans hQ1.symm)) ?_
          have hQ1b := hK1.quot
          rw [← hQ1] at hQ1b
          clear hF
          refine S.moveT rfl ?_
          refine S.mul rfl rfl rfl ?_
          refine S.moveT rfl ?_
          refine S.add rfl rfl rfl ?_
          refine S.moveT rfl ?_
          refine S.moveT rfl ?_
          refine S.mul rfl rfl rfl ?_
          refine S.sub rfl rfl rfl ?_
          rw [hYe] at hQ1
          obtain ⟨hR1a, hR1b⟩ := rest_of (show 0 < Y by omega) hQ1
          obtain ⟨R1, hR1⟩ : ∃ R1, R1 = u * 4294967296 + v / 4294967296 - Q1 * Y := ⟨_, rfl⟩
          rw [← hR1] at hR1a hR1b
          refine S.as (d := 93) rfl (congrArg (Value.int .u64) (wrap3 hR1 hR1a (by omega))) ?_
          refine S.assignT rfl ?_
          refine WS.done ?_
          refine WR.seq ?_
          refine WR.region rfl ?_
          refine S.moveT rfl ?_
          refine S.moveT rfl ?_
          have hK2 := KnP.of hY1 hY2 hR1a hR1b (show 0 ≤ v % 4294967296 by omega) (by omega)
          have hqm2 := quo_mul hR1a (show 0 < Y / 4294967296 by omega)
          refine S.quoU rfl rfl (by omega) (by omega) rfl ?_
          refine S.assignT rfl ?_
          refine WS.done ?_
          refine WR.seq ?_
          refine WR.region rfl ?_
          refine S.moveT rfl ?_
          refine S.moveT rfl ?_
          refine S.moveT rfl ?_
          first
            | refine S.mulU rfl rfl rfl (by omega) ?_
            | refine S.mul rfl rfl rfl ?_
          first
            | refine S.subU rfl rfl rfl (by omega) ?_
            | refine S.sub rfl rfl rfl ?_
          refine S.assignT rfl ?_
          refine WS.done ?_
          refine WR.seq ?_
          refine WR.block ?_
          refine WR.loopE (fun rq mm rr wr => ∃ (q r : Int), mm = q.toNat ∧ (Kn1 (Y / 4294967296) (Y % 4294967296) R1 (v % 4294967296) q r) ∧ rr 16 = .int .u64 r ∧ rr 18 = .int .u64 q ∧ Agr [2, 8, 9, 10, 14, 15, 17] rr rq ∧ St wr R L) ⟨_, _, rfl, (by exact hK2.start), rfl, rfl, ⟨rfl, rfl, rfl, rfl, rfl, rfl, rfl, trivial⟩, hS1001⟩ ?_
          rintro mm rr w1002 ⟨q, r, hm1002, hG, hr1002_16, hr1002_18, hA1002, hS1002⟩
          obtain ⟨rr, rfl⟩ := agrBack hA1002
          clear hA1002
          obtain ⟨rr, rfl⟩ := back2 (r := rr) hr1002_16 hr1002_18
          clear hr1002_16 hr1002_18
          have hq0 := hG.nonneg hK2
          have hr0 := hG.rlo
          have hr1 := hG.rhi
          have hqm := hG.most
          refine WR.seq ?_
          refine WR.seq ?_
          refine WR.region rfl ?_
          refine S.moveT rfl ?_
          refine S.geq rfl rfl rfl ?_
          refine S.moveT rfl ?_
          refine S.splitD (d := 104) rfl (fun c104 => ?_) (fun c104 => ?_)
          ·
            skip
            refine S.off rfl ?_
            refine S.off rfl ?_
            refine S.off rfl ?_
            refine S.off rfl ?_
            refine S.off rfl ?_
            refine S.off rfl ?_
            refine S.off rfl ?_
            refine S.off rfl ?_
            refine S.pickTC rfl rfl ?_
            refine WS.done ?_
            refine WR.condT rfl ?_
            refine WR.skip ?_
            refine WR.block ?_
            refine WR.seq ?_
            refine WR.region rfl ?_
            refine S.moveT rfl ?_
            have hc2 : 4294967296 ≤ q ∨ 4294967296 * r + v % 4294967296 < q * (Y % 4294967296) := by first | exact Or.inl c104 | exact Or.inr c113
            have hqp := hG.pos hK2 hc2
            first
              | refine S.subU rfl rfl rfl (by omega) ?_
              | refine S.sub rfl rfl rfl ?_
            refine S.assignT rfl ?_
            refine WS.done ?_
            refine WR.seq ?_
            refine WR.region rfl ?_
            refine S.moveT rfl ?_
            refine S.moveT rfl ?_
            first
              | refine S.addU rfl rfl rfl (by omega) ?_
              | refine S.add rfl rfl rfl ?_
            refine S.assignT rfl ?_
            refine WS.done ?_
            refine WR.seq ?_
            refine WR.region rfl ?_
            refine S.moveT rfl ?_
            refine S.geq rfl rfl rfl ?_
            refine WS.done ?_
            refine WR.condD rfl (fun c120 => ?_) (fun c120 => ?_)
            ·
              skip
              refine WR.exit ?_
              refine WR.seq ?_
              refine WR.region rfl ?_
              obtain ⟨Q0, hQ0⟩ : ∃ Q0, Q0 = (R1 * 4294967296 + v % 4294967296) / (Y / 4294967296 * 4294967296 + Y % 4294967296) := ⟨_, rfl⟩
              refine S.as (d := 18) rfl (congrArg (Value.int .u64) ((by first | exact hG.done1 hK2 c113 | exact hG.done2 hK2 hc2 c120 : _ = _).trans hQ0.symm)) ?_
              have hQ0b := hK2.quot
              rw [← hQ0] at hQ0b
              clear hG
              refine S.moveT rfl ?_
              first
                | refine S.mulU rfl rfl rfl (by omega) ?_
                | refine S.mul rfl rfl rfl ?_
              refine S.moveT rfl ?_
              first
                | refine S.addU rfl rfl rfl (by omega) ?_
                | refine S.add rfl rfl rfl ?_
              refine S.moveT rfl ?_
              refine S.mul rfl rfl rfl ?_
              refine S.moveT rfl ?_
              refine S.add rfl rfl rfl ?_
              refine S.moveT rfl ?_
              refine S.moveT rfl ?_
              refine S.mul rfl rfl rfl ?_
              refine S.sub rfl rfl rfl ?_
              rw [hYe] at hQ0
              obtain ⟨hR0a, hR0b⟩ := rest_of (show 0 < Y by omega) hQ0
              obtain ⟨R0, hR0⟩ : ∃ R0, R0 = R1 * 4294967296 + v % 4294967296 - Q0 * Y := ⟨_, rfl⟩
              rw [← hR0] at hR0a hR0b
              refine S.as (d := 132) rfl (congrArg (Value.int .u64) (wrap3 hR0 hR0a (by omega))) ?_
              refine S.moveT rfl ?_
              refine S.shr rfl rfl (by omega) rfl ?_
              refine S.as (d := 134) rfl (congrArg (Value.int .u64) hU.shr) ?_
              subst hY
              obtain ⟨hfin1, hfin2⟩ := knuth (show 0 < y by omega) (show 0 < p by omega) (hM.trans (by omega)) hQ1 hR1 hQ0 hR0
              refine S.assignT rfl ?_
              refine S.assignT rfl ?_
              refine WS.done ?_
              refine WR.ret (ret2 rfl rfl rfl ?_)
              exact ⟨tup2 (congrArg (Value.int .u64) hfin1) (congrArg (Value.int .u64) hfin2), hS1002⟩
            ·
              skip
              refine WR.skip ?_
              exact ⟨_, (by omega), ⟨q - 1, r + Y / 4294967296, rfl, (by exact hG.step hK2 hc2 (by omega)), rfl, rfl, ⟨rfl, rfl, rfl, rfl, rfl, rfl, rfl, trivial⟩, hS1002⟩⟩
          ·
            skip
            refine S.moveT rfl ?_
            refine S.moveT rfl ?_
            have hpq := prod_bound q (Y % 4294967296) hq0 (by omega) (by omega) (by omega)
            first
              | refine S.mulU rfl rfl rfl (by omega) ?_
              | refine S.mul rfl rfl rfl ?_
            refine S.moveT rfl ?_
            first
              | refine S.mulU rfl rfl rfl (by omega) ?_
              | refine S.mul rfl rfl rfl ?_
            refine S.moveT rfl ?_
            first
              | refine S.addU rfl rfl rfl (by omega) ?_
              | refine S.add rfl rfl rfl ?_
            refine S.gtr rfl rfl rfl ?_
            refine S.pickF rfl rfl ?_
            refine WS.done ?_
            refine WR.condD rfl (fun c113 => ?_) (fun c113 => ?_)
            ·
              skip
              refine WR.skip ?_
              refine WR.block ?_
              refine WR.seq ?_
              refine WR.region rfl ?_
              refine S.moveT rfl ?_
              have hc2 : 4294967296 ≤ q ∨ 4294967296 * r + v % 4294967296 < q * (Y % 4294967296) := by first | exact Or.inl c104 | exact Or.inr c113
              have hqp := hG.pos hK2 hc2
              first
                | refine S.subU rfl rfl rfl (by omega) ?_
                | refine S.sub rfl rfl rfl ?_
              refine S.assignT rfl ?_
              refine WS.done ?_
              refine WR.seq ?_
              refine WR.region rfl ?_
              refine S.moveT rfl ?_
              refine S.moveT rfl ?_
              first
                | refine S.addU rfl rfl rfl (by omega) ?_
                | refine S.add rfl rfl rfl ?_
              refine S.assignT rfl ?_
              refine WS.done ?_
              refine WR.seq ?_
              refine WR.region rfl ?_
              refine S.moveT rfl ?_
              refine S.geq rfl rfl rfl ?_
              refine WS.done ?_
              refine WR.condD rfl (fun c120 => ?_) (fun c120 => ?_)
              ·
                skip
                refine WR.exit ?_
                refine WR.seq ?_
                refine WR.region rfl ?_
                obtain ⟨Q0, hQ0⟩ : ∃ Q0, Q0 = (R1 * 4294967296 + v % 4294967296) / (Y / 4294967296 * 4294967296 + Y % 4294967296) := ⟨_, rfl⟩
                refine S.as (d := 18) rfl (congrArg (Value.int .u64) ((by first | exact hG.done1 hK2 c113 | exact hG.done2 hK2 hc2 c120 : _ = _).trans hQ0.symm)) ?_
                have hQ0b := hK2.quot
                rw [← hQ0] at hQ0b
                clear hG
                refine S.moveT rfl ?_
                first
                  | refine S.mulU rfl rfl rfl (by omega) ?_
                  | refine S.mul rfl rfl rfl ?_
                refine S.moveT rfl ?_
                first
                  | refine S.addU rfl rfl rfl (by omega) ?_
                  | refine S.add rfl rfl rfl ?_
                refine S.moveT rfl ?_
                refine S.mul rfl rfl rfl ?_
                refine S.moveT rfl ?_
                refine S.add rfl rfl rfl ?_
                refine S.moveT rfl ?_
                refine S.moveT rfl ?_
                refine S.mul rfl rfl rfl ?_
                refine S.sub rfl rfl rfl ?_
                rw [hYe] at hQ0
                obtain ⟨hR0a, hR0b⟩ := rest_of (show 0 < Y by omega) hQ0
                obtain ⟨R0, hR0⟩ : ∃ R0, R0 = R1 * 4294967296 + v % 4294967296 - Q0 * Y := ⟨_, rfl⟩
                rw [← hR0] at hR0a hR0b
                refine S.as (d := 132) rfl (congrArg (Value.int .u64) (wrap3 hR0 hR0a (by omega))) ?_
                refine S.moveT rfl ?_
                refine S.shr rfl rfl (by omega) rfl ?_
                refine S.as (d := 134) rfl (congrArg (Value.int .u64) hU.shr) ?_
                subst hY
                obtain ⟨hfin1, hfin2⟩ := knuth (show 0 < y by omega) (show 0 < p by omega) (hM.trans (by omega)) hQ1 hR1 hQ0 hR0
                refine S.assignT rfl ?_
                refine S.assignT rfl ?_
                refine WS.done ?_
                refine WR.ret (ret2 rfl rfl rfl ?_)
                exact ⟨tup2 (congrArg (Value.int .u64) hfin1) (congrArg (Value.int .u64) hfin2), hS1002⟩
              ·
                skip
                refine WR.skip ?_
                exact ⟨_, (by omega), ⟨q - 1, r + Y / 4294967296, rfl, (by exact hG.step hK2 hc2 (by omega)), rfl, rfl, ⟨rfl, rfl, rfl, rfl, rfl, rfl, rfl, trivial⟩, hS1002⟩⟩
            ·
              skip
              refine WR.exit ?_
              refine WR.seq ?_
              refine WR.region rfl ?_
              obtain ⟨Q0, hQ0⟩ : ∃ Q0, Q0 = (R1 * 4294967296 + v % 4294967296) / (Y / 4294967296 * 4294967296 + Y % 4294967296) := ⟨_, rfl⟩
              refine S.as (d := 18) rfl (congrArg (Value.int .u64) ((by first | exact hG.done1 hK2 c113 | exact hG.done2 hK2 hc2 c120 : _ = _).trans hQ0.symm)) ?_
              have hQ0b := hK2.quot
              rw [← hQ0] at hQ0b
              clear hG
              refine S.moveT rfl ?_
              first
                | refine S.mulU rfl rfl rfl (by omega) ?_
                | refine S.mul rfl rfl rfl ?_
              refine S.moveT rfl ?_
              first
                | refine S.addU rfl rfl rfl (by omega) ?_
                | refine S.add rfl rfl rfl ?_
              refine S.moveT rfl ?_
              refine S.mul rfl rfl rfl ?_
              refine S.moveT rfl ?_
              refine S.add rfl rfl rfl ?_
              refine S.moveT rfl ?_
              refine S.moveT rfl ?_
              refine S.mul rfl rfl rfl ?_
              refine S.sub rfl rfl rfl ?_
              rw [hYe] at hQ0
              obtain ⟨hR0a, hR0b⟩ := rest_of (show 0 < Y by omega) hQ0
              obtain ⟨R0, hR0⟩ : ∃ R0, R0 = R1 * 4294967296 + v % 4294967296 - Q0 * Y := ⟨_, rfl⟩
              rw [← hR0] at hR0a hR0b
              refine S.as (d := 132) rfl (congrArg (Value.int .u64) (wrap3 hR0 hR0a (by omega))) ?_
              refine S.moveT rfl ?_
              refine S.shr rfl rfl (by omega) rfl ?_
              refine S.as (d := 134) rfl (congrArg (Value.int .u64) hU.shr) ?_
              subst hY
              obtain ⟨hfin1, hfin2⟩ := knuth (show 0 < y by omega) (show 0 < p by omega) (hM.trans (by omega)) hQ1 hR1 hQ0 hR0
              refine S.assignT rfl ?_
              refine S.assignT rfl ?_
              refine WS.done ?_
              refine WR.ret (ret2 rfl rfl rfl ?_)
              exact ⟨tup2 (congrArg (Value.int .u64) hfin1) (congrArg (Value.int .u64) hfin2), hS1002⟩
        ·
          skip
          refine WR.skip ?_
          exact ⟨_, (by omega), ⟨q - 1, r + Y / 4294967296, rfl, (by exact hF.step hK1 hc1 (by omega)), rfl, rfl, ⟨rfl, rfl, rfl, rfl, rfl, rfl, rfl, trivial⟩, hS1001⟩⟩
      ·
        skip
        refine WR.exit ?_
        refine WR.seq ?_
        refine WR.region rfl ?_
        have hYe : Y / 4294967296 * 4294967296 + Y % 4294967296 = Y := by omega
        obtain ⟨Q1, hQ1⟩ : ∃ Q1, Q1 = (u * 4294967296 + v / 4294967296) / (Y / 4294967296 * 4294967296 + Y % 4294967296) := ⟨_, rfl⟩
        refine S.as (d := 15) rfl (congrArg (Value.int .u64) ((by first | exact hF.done1 hK1 c78 | exact hF.done2 hK1 hc1 c85 : _ = _).trans hQ1.symm)) ?_
        have hQ1b := hK1.quot
        rw [← hQ1] at hQ1b
        clear hF
        refine S.moveT rfl ?_
        refine S.mul rfl rfl rfl ?_
        refine S.moveT rfl ?_
        refine S.add rfl rfl rfl ?_
        refine S.moveT rfl ?_
        refine S.moveT rfl ?_
        refine S.mul rfl rfl rfl ?_
        refine S.sub rfl rfl rfl ?_
        rw [hYe] at hQ1
        obtain ⟨hR1a, hR1b⟩ := rest_of (show 0 < Y by omega) hQ1
        obtain ⟨R1, hR1⟩ : ∃ R1, R1 = u * 4294967296 + v / 4294967296 - Q1 * Y := ⟨_, rfl⟩
        rw [← hR1] at hR1a hR1b
        refine S.as (d := 93) rfl (congrArg (Value.int .u64) (wrap3 hR1 hR1a (by omega))) ?_
        refine S.assignT rfl ?_
        refine WS.done ?_
        refine WR.seq ?_
        refine WR.region rfl ?_
        refine S.moveT rfl ?_
        refine S.moveT rfl ?_
        have hK2 := KnP.of hY1 hY2 hR1a hR1b (show 0 ≤ v % 4294967296 by omega) (by omega)
        have hqm2 := quo_mul hR1a (show 0 < Y / 4294967296 by omega)
        refine S.quoU rfl rfl (by omega) (by omega) rfl ?_
        refine S.assignT rfl ?_
        refine WS.done ?_
        refine WR.seq ?_
        refine WR.region rfl ?_
        refine S.moveT rfl ?_
        refine S.moveT rfl ?_
        refine S.moveT rfl ?_
        first
          | refine S.mulU rfl rfl rfl (by omega) ?_
          | refine S.mul rfl rfl rfl ?_
        first
          | refine S.subU rfl rfl rfl (by omega) ?_
          | refine S.sub rfl rfl rfl ?_
        refine S.assignT rfl ?_
        refine WS.done ?_
        refine WR.seq ?_
        refine WR.block ?_
        refine WR.loopE (fun rq mm rr wr => ∃ (q r : Int), mm = q.toNat ∧ (Kn1 (Y / 4294967296) (Y % 4294967296) R1 (v % 4294967296) q r) ∧ rr 16 = .int .u64 r ∧ rr 18 = .int .u64 q ∧ Agr [2, 8, 9, 10, 14, 15, 17] rr rq ∧ St wr R L) ⟨_, _, rfl, (by exact hK2.start), rfl, rfl, ⟨rfl, rfl, rfl, rfl, rfl, rfl, rfl, trivial⟩, hS1001⟩ ?_
        rintro mm rr w1002 ⟨q, r, hm1002, hG, hr1002_16, hr1002_18, hA1002, hS1002⟩
        obtain ⟨rr, rfl⟩ := agrBack hA1002
        clear hA1002
        obtain ⟨rr, rfl⟩ := back2 (r := rr) hr1002_16 hr1002_18
        clear hr1002_16 hr1002_18
        have hq0 := hG.nonneg hK2
        have hr0 := hG.rlo
        have hr1 := hG.rhi
        have hqm := hG.most
        refine WR.seq ?_
        refine WR.seq ?_
        refine WR.region rfl ?_
        refine S.moveT rfl ?_
        refine S.geq rfl rfl rfl ?_
        refine S.moveT rfl ?_
        refine S.splitD (d := 104) rfl (fun c104 => ?_) (fun c104 => ?_)
        ·
          skip
          refine S.off rfl ?_
          refine S.off rfl ?_
          refine S.off rfl ?_
          refine S.off rfl ?_
          refine S.off rfl ?_
          refine S.off rfl ?_
          refine S.off rfl ?_
          refine S.off rfl ?_
          refine S.pickTC rfl rfl ?_
          refine WS.done ?_
          refine WR.condT rfl ?_
          refine WR.skip ?_
          refine WR.block ?_
          refine WR.seq ?_
          refine WR.region rfl ?_
          refine S.moveT rfl ?_
          have hc2 : 4294967296 ≤ q ∨ 4294967296 * r + v % 4294967296 < q * (Y % 4294967296) := by first | exact Or.inl c104 | exact Or.inr c113
          have hqp := hG.pos hK2 hc2
          first
            | refine S.subU rfl rfl rfl (by omega) ?_
            | refine S.sub rfl rfl rfl ?_
          refine S.assignT rfl ?_
          refine WS.done ?_
          refine WR.seq ?_
          refine WR.region rfl ?_
          refine S.moveT rfl ?_
          refine S.moveT rfl ?_
          first
            | refine S.addU rfl rfl rfl (by omega) ?_
            | refine S.add rfl rfl rfl ?_
          refine S.assignT rfl ?_
          refine WS.done ?_
          refine WR.seq ?_
          refine WR.region rfl ?_
          refine S.moveT rfl ?_
          refine S.geq rfl rfl rfl ?_
          refine WS.done ?_
          refine WR.condD rfl (fun c120 => ?_) (fun c120 => ?_)
          ·
            skip
            refine WR.exit ?_
            refine WR.seq ?_
            refine WR.region rfl ?_
            obtain ⟨Q0, hQ0⟩ : ∃ Q0, Q0 = (R1 * 4294967296 + v % 4294967296) / (Y / 4294967296 * 4294967296 + Y % 4294967296) := ⟨_, rfl⟩
            refine S.as (d := 18) rfl (congrArg (Value.int .u64) ((by first | exact hG.done1 hK2 c113 | exact hG.done2 hK2 hc2 c120 : _ = _).trans hQ0.symm)) ?_
            have hQ0b := hK2.quot
            rw [← hQ0] at hQ0b
            clear hG
            refine S.moveT rfl ?_
            first
              | refine S.mulU rfl rfl rfl (by omega) ?_
              | refine S.mul rfl rfl rfl ?_
            refine S.moveT rfl ?_
            first
              | refine S.addU rfl rfl rfl (by omega) ?_
              | refine S.add rfl rfl rfl ?_
            refine S.moveT rfl ?_
            refine S.mul rfl rfl rfl ?_
            refine S.moveT rfl ?_
            refine S.add rfl rfl rfl ?_
            refine S.moveT rfl ?_
            refine S.moveT rfl ?_
            refine S.mul rfl rfl rfl ?_
            refine S.sub rfl rfl rfl ?_
            rw [hYe] at hQ0
            obtain ⟨hR0a, hR0b⟩ := rest_of (show 0 < Y by omega) hQ0
            obtain ⟨R0, hR0⟩ : ∃ R0, R0 = R1 * 4294967296 + v % 4294967296 - Q0 * Y := ⟨_, rfl⟩
            rw [← hR0] at hR0a hR0b
            refine S.as (d := 132) rfl (congrArg (Value.int .u64) (wrap3 hR0 hR0a (by omega))) ?_
            refine S.moveT rfl ?_
            refine S.shr rfl rfl (by omega) rfl ?_
            refine S.as (d := 134) rfl (congrArg (Value.int .u64) hU.shr) ?_
            subst hY
            obtain ⟨hfin1, hfin2⟩ := knuth (show 0 < y by omega) (show 0 < p by omega) (hM.trans (by omega)) hQ1 hR1 hQ0 hR0
            refine S.assignT rfl ?_
            refine S.assignT rfl ?_
            refine WS.done ?_
            refine WR.ret (ret2 rfl rfl rfl ?_)
            exact ⟨tup2 (congrArg (Value.int .u64) hfin1) (congrArg (Value.int .u64) hfin2), hS1002⟩
          ·
            skip
            refine WR.skip ?_
            exact ⟨_, (by omega), ⟨q - 1, r + Y / 4294967296, rfl, (by exact hG.step hK2 hc2 (by omega)), rfl, rfl, ⟨rfl, rfl, rfl, rfl, rfl, rfl, rfl, trivial⟩, hS1002⟩⟩
        ·
          skip
          refine S.moveT rfl ?_
          refine S.moveT rfl ?_
          have hpq := prod_bound q (Y % 4294967296) hq0 (by omega) (by omega) (by omega)
          first
            | refine S.mulU rfl rfl rfl (by omega) ?_
            | refine S.mul rfl rfl rfl ?_
          refine S.moveT rfl ?_
          first
            | refine S.mulU rfl rfl rfl (by omega) ?_
            | refine S.mul rfl rfl rfl ?_
          refine S.moveT rfl ?_
          first
            | refine S.addU rfl rfl rfl (by omega) ?_
            | refine S.add rfl rfl rfl ?_
          refine S.gtr rfl rfl rfl ?_
          refine S.pickF rfl rfl ?_
          refine WS.done ?_
          refine WR.condD rfl (fun c113 => ?_) (fun c113 => ?_)
          ·
            skip
            refine WR.skip ?_
            refine WR.block ?_
            refine WR.seq ?_
            refine WR.region rfl ?_
            refine S.moveT rfl ?_
            have hc2 : 4294967296 ≤ q ∨ 4294967296 * r + v % 4294967296 < q * (Y % 4294967296) := by first | exact Or.inl c104 | exact Or.inr c113
            have hqp := hG.pos hK2 hc2
            first
              | refine S.subU rfl rfl rfl (by omega) ?_
              | refine S.sub rfl rfl rfl ?_
            refine S.assignT rfl ?_
            refine WS.done ?_
            refine WR.seq ?_
            refine WR.region rfl ?_
            refine S.moveT rfl ?_
            refine S.moveT rfl ?_
            first
              | refine S.addU rfl rfl rfl (by omega) ?_
              | refine S.add rfl rfl rfl ?_
            refine S.assignT rfl ?_
            refine WS.done ?_
            refine WR.seq ?_
            refine WR.region rfl ?_
            refine S.moveT rfl ?_
            refine S.geq rfl rfl rfl ?_
            refine WS.done ?_
            refine WR.condD rfl (fun c120 => ?_) (fun c120 => ?_)
            ·
              skip
              refine WR.exit ?_
              refine WR.seq ?_
              refine WR.region rfl ?_
              obtain ⟨Q0, hQ0⟩ : ∃ Q0, Q0 = (R1 * 4294967296 + v % 4294967296) / (Y / 4294967296 * 4294967296 + Y % 4294967296) := ⟨_, rfl⟩
              refine S.as (d := 18) rfl (congrArg (Value.int .u64) ((by first | exact hG.done1 hK2 c113 | exact hG.done2 hK2 hc2 c120 : _ = _).trans hQ0.symm)) ?_
              have hQ0b := hK2.quot
              rw [← hQ0] at hQ0b
              clear hG
              refine S.moveT rfl ?_
              first
                | refine S.mulU rfl rfl rfl (by omega) ?_
                | refine S.mul rfl rfl rfl ?_
              refine S.moveT rfl ?_
              first
                | refine S.addU rfl rfl rfl (by omega) ?_
                | refine S.add rfl rfl rfl ?_
              refine S.moveT rfl ?_
              refine S.mul rfl rfl rfl ?_
              refine S.moveT rfl ?_
              refine S.add rfl rfl rfl ?_
              refine S.moveT rfl ?_
              refine S.moveT rfl ?_
              refine S.mul rfl rfl rfl ?_
              refine S.sub rfl rfl rfl ?_
              rw [hYe] at hQ0
              obtain ⟨hR0a, hR0b⟩ := rest_of (show 0 < Y by omega) hQ0
              obtain ⟨R0, hR0⟩ : ∃ R0, R0 = R1 * 4294967296 + v % 4294967296 - Q0 * Y := ⟨_, rfl⟩
              rw [← hR0] at hR0a hR0b
              refine S.as (d := 132) rfl (congrArg (Value.int .u64) (wrap3 hR0 hR0a (by omega))) ?_
              refine S.moveT rfl ?_
              refine S.shr rfl rfl (by omega) rfl ?_
              refine S.as (d := 134) rfl (congrArg (Value.int .u64) hU.shr) ?_
              subst hY
              obtain ⟨hfin1, hfin2⟩ := knuth (show 0 < y by omega) (show 0 < p by omega) (hM.trans (by omega)) hQ1 hR1 hQ0 hR0
              refine S.assignT rfl ?_
              refine S.assignT rfl ?_
              refine WS.done ?_
              refine WR.ret (ret2 rfl rfl rfl ?_)
              exact ⟨tup2 (congrArg (Value.int .u64) hfin1) (congrArg (Value.int .u64) hfin2), hS1002⟩
            ·
              skip
              refine WR.skip ?_
              exact ⟨_, (by omega), ⟨q - 1, r + Y / 4294967296, rfl, (by exact hG.step hK2 hc2 (by omega)), rfl, rfl, ⟨rfl, rfl, rfl, rfl, rfl, rfl, rfl, trivial⟩, hS1002⟩⟩
          ·
            skip
            refine WR.exit ?_
            refine WR.seq ?_
            refine WR.region rfl ?_
            obtain ⟨Q0, hQ0⟩ : ∃ Q0, Q0 = (R1 * 4294967296 + v % 4294967296) / (Y / 4294967296 * 4294967296 + Y % 4294967296) := ⟨_, rfl⟩
            refine S.as (d := 18) rfl (congrArg (Value.int .u64) ((by first | exact hG.done1 hK2 c113 | exact hG.done2 hK2 hc2 c120 : _ = _).trans hQ0.symm)) ?_
            have hQ0b := hK2.quot
            rw [← hQ0] at hQ0b
            clear hG
            refine S.moveT rfl ?_
            first
              | refine S.mulU rfl rfl rfl (by omega) ?_
              | refine S.mul rfl rfl rfl ?_
            refine S.moveT rfl ?_
            first
              | refine S.addU rfl rfl rfl (by omega) ?_
              | refine S.add rfl rfl rfl ?_
            refine S.moveT rfl ?_
            refine S.mul rfl rfl rfl ?_
            refine S.moveT rfl ?_
            refine S.add rfl rfl rfl ?_
            refine S.moveT rfl ?_
            refine S.moveT rfl ?_
            refine S.mul rfl rfl rfl ?_
            refine S.sub rfl rfl rfl ?_
            rw [hYe] at hQ0
            obtain ⟨hR0a, hR0b⟩ := rest_of (show 0 < Y by omega) hQ0
            obtain ⟨R0, hR0⟩ : ∃ R0, R0 = R1 * 4294967296 + v % 4294967296 - Q0 * Y := ⟨_, rfl⟩
            rw [← hR0] at hR0a hR0b
            refine S.as (d := 132) rfl (congrArg (Value.int .u64) (wrap3 hR0 hR0a (by omega))) ?_
            refine S.moveT rfl ?_
            refine S.shr rfl rfl (by omega) rfl ?_
            refine S.as (d := 134) rfl (congrArg (Value.int .u64) hU.shr) ?_
            subst hY
            obtain ⟨hfin1, hfin2⟩ := knuth (show 0 < y by omega) (show 0 < p by omega) (hM.trans (by omega)) hQ1 hR1 hQ0 hR0
            refine S.assignT rfl ?_
            refine S.assignT rfl ?_
            refine WS.done ?_
            refine WR.ret (ret2 rfl rfl rfl ?_)
            exact ⟨tup2 (congrArg (Value.int .u64) hfin1) (congrArg (Value.int .u64) hfin2), hS1002⟩

set_option maxRecDepth 100000 in
set_option maxHeartbeats 4000000 in
theorem s_ratio {w : World} {R : Kn} {L : List HP}  (hS : St w R (L)) {a b c : Int} {up : Bool} (ha : fits a) (hb : fits b) (hc : fits c) :
    Fn Try.prog 35 #[.int .i64 a, .int .i64 b, .int .i64 c, .bool up] w (fun v w' => v = (if c < 1 then .tuple #[.int .i64 0, .int .i64 11] else told (quot (a * b) c up)) ∧ St w' R L) := by
  have hP := prod64 (mag_nonneg a) (mag_nonneg b) (mag_le ha) (mag_le hb)
  obtain ⟨hc1, hc2⟩ := hc
  refine Fn.intro (n := 58) Try.func35 rfl rfl rfl ?_
  refine WR.seq ?_
  refine WR.region rfl ?_
  refine S.assignC rfl ?_
  refine S.assignC rfl ?_
  refine WS.done ?_
  refine WR.seq ?_
  refine WR.seq ?_
  refine WR.region rfl ?_
  refine S.moveT rfl ?_
  refine S.lss rfl rfl rfl ?_
  refine WS.done ?_
  refine WR.condD rfl (fun c17 => ?_) (fun c17 => ?_)
  ·
    skip
    refine WR.seq ?_
    refine WR.region rfl ?_
    refine S.assignC rfl ?_
    refine S.assignC rfl ?_
    refine WS.done ?_
    refine WR.ret (ret2 rfl rfl rfl ?_)
    exact ⟨(if_pos c17).symm, hS⟩
  ·
    skip
    refine WR.skip ?_
    refine WR.seq ?_
    refine WR.region rfl ?_
    refine S.moveT rfl ?_
    refine S.moveT rfl ?_
    refine S.call ent40 rfl (s_product hS (by assumption) (by assumption)) rfl ?_
    rintro _ w21 ⟨rfl, hS21⟩
    clear hS
    refine S.moveT rfl ?_
    refine S.extract rfl rfl rfl ?_
    refine S.extract rfl rfl rfl ?_
    refine S.alloc hS21 ti72 rfl rfl ?_
    intro b10 w10 hS10; clear hS21
    refine S.storeB (i := 0) hS10 rfl ti72 rfl rfl rfl rfl rfl rfl rfl rfl ?_
    intro w2001 hS2001; clear hS10
    refine S.assignT rfl ?_
    refine WS.done ?_
    refine WR.seq ?_
    refine WR.region rfl ?_
    refine S.moveT rfl ?_
    first
      | refine S.convN Try.underlying2 Try.underlying47 rfl rfl (wrap_u64 (by omega) (by omega)) ?_
      | refine S.conv Try.underlying2 Try.underlying47 rfl rfl ?_
    refine S.assignT rfl ?_
    refine WS.done ?_
    refine WR.seq ?_
    refine WR.seq ?_
    refine WR.region rfl ?_
    refine S.fieldB Try.underlying72 rfl ti47 rfl rfl rfl rfl ?_
    refine S.loadB (i := 0) hS2001 rfl Try.underlying47 rfl rfl rfl rfl ?_
    refine S.moveT rfl ?_
    refine S.geq rfl rfl rfl ?_
    refine WS.done ?_
    refine WR.condD rfl (fun c29 => ?_) (fun c29 => ?_)
    ·
      skip
      refine WR.seq ?_
      refine WR.region rfl ?_
      refine S.assignC rfl ?_
      refine S.assignC rfl ?_
      refine WS.done ?_
      refine WR.ret (ret2 rfl rfl rfl ?_)
      exact ⟨((if_neg c17).trans (told_out (ratio_out (by omega) c29))).symm, hS2001.drop⟩
    ·
      skip
      refine WR.skip ?_
      refine WR.seq ?_
      refine WR.region rfl ?_
      refine S.fieldB Try.underlying72 rfl ti47 rfl rfl rfl rfl ?_
      refine S.loadB (i := 0) hS2001 rfl Try.underlying47 rfl rfl rfl rfl ?_
      refine S.fieldB Try.underlying72 rfl ti47 rfl rfl rfl rfl ?_
      refine S.loadB (i := 0) hS2001 rfl Try.underlying47 rfl rfl rfl rfl ?_
      refine S.moveT rfl ?_
      refine S.call ent50 rfl (s_div64 hS2001 (by omega) (by omega) (by omega)) rfl ?_
      rintro _ w36 ⟨rfl, hS36⟩
      clear hS2001
      refine S.as (d := 36) rfl div_tup ?_
      have hq := div_lt hP.1 (show 0 < c by omega) (by omega)
      have hr1 := Int.emod_nonneg (mag a * mag b) (show c ≠ 0 by omega)
      have hr2 := Int.emod_lt_of_pos (mag a * mag b) (show 0 < c by omega)
      refine S.moveT rfl ?_
      refine S.extract rfl rfl rfl ?_
      refine S.extract rfl rfl rfl ?_
      refine S.assignT rfl ?_
      refine S.assignT rfl ?_
      refine WS.done ?_
      refine WR.seq ?_
      refine WR.region rfl ?_
      refine S.assignC rfl ?_
      refine WS.done ?_
      refine WR.seq ?_
      refine WR.seq ?_
      refine WR.region rfl ?_
      refine S.moveT rfl ?_
      refine S.neq rfl rfl rfl ?_
      refine S.moveT rfl ?_
      refine S.splitD (d := 41) rfl (fun c41 => ?_) (fun c41 => ?_)
      ·
        skip
        refine S.moveT rfl ?_
        refine S.moveT rfl ?_
        refine S.neqB Try.underlying4 rfl rfl rfl ?_
        refine S.pickT rfl rfl ?_
        refine WS.done ?_
        refine WR.cond rfl (fun c45 => ?_) (fun c45 => ?_)
        ·
          skip
          refine WR.region rfl ?_
          refine S.moveT rfl ?_
          refine S.callX rfl (x_add64 (by omega) (by omega) (by omega)) rfl ?_
          refine S.moveT rfl ?_
          refine S.extract rfl rfl rfl ?_
          refine S.extract rfl rfl rfl ?_
          refine S.assignT rfl ?_
          refine S.assignT rfl ?_
          refine WS.done ?_
          refine WR.seq ?_
          refine WR.region rfl ?_
          refine S.moveT rfl ?_
          refine S.moveT rfl ?_
          refine S.buildStruct [.int _ _, .int _ _] [(0, 1), (1, 1)] Try.underlying72 ti72 rfl (by kernel_rfl) rfl rfl rfl rfl rfl rfl ?_
          refine S.moveT rfl ?_
          refine S.call ent41 rfl (s_long hS36 (by omega) (by omega)) rfl ?_
          rintro _ w55 ⟨rfl, hS55⟩
          clear hS36
          refine S.extract rfl rfl rfl ?_
          refine S.extract rfl rfl rfl ?_
          refine S.assignT rfl ?_
          refine S.assignT rfl ?_
          refine WS.done ?_
          refine WR.ret (ret2 rfl rfl rfl ?_)
          refine ⟨?_, hS55.drop⟩
          rw [if_neg c17]
          have hc0 : 0 < c := by omega
          first | exact congrArg told (ratio_up hc0 c41 c45) | exact congrArg told (ratio_same hc0 (.inr c45)) | exact congrArg told (ratio_same hc0 (.inl (by omega)))
        ·
          skip
          refine WR.skip ?_
          refine WR.seq ?_
          refine WR.region rfl ?_
          refine S.moveT rfl ?_
          refine S.moveT rfl ?_
          refine S.buildStruct [.int _ _, .int _ _] [(0, 1), (1, 1)] Try.underlying72 ti72 rfl (by kernel_rfl) rfl rfl rfl rfl rfl rfl ?_
          refine S.moveT rfl ?_
          refine S.call ent41 rfl (s_long hS36 (by omega) (by omega)) rfl ?_
          rintro _ w55 ⟨rfl, hS55⟩
          clear hS36
          refine S.extract rfl rfl rfl ?_
          refine S.extract rfl rfl rfl ?_
          refine S.assignT rfl ?_
          refine S.assignT rfl ?_
          refine WS.done ?_
          refine WR.ret (ret2 rfl rfl rfl ?_)
          refine ⟨?_, hS55.drop⟩
          rw [if_neg c17]
          have hc0 : 0 < c := by omega
          first | exact congrArg told (ratio_up hc0 c41 c45) | exact congrArg told (ratio_same hc0 (.inr c45)) | exact congrArg told (ratio_same hc0 (.inl (by omega)))
      ·
        skip
        refine S.off rfl ?_
        refine S.off rfl ?_
        refine S.off rfl ?_
        refine S.pickFC rfl rfl ?_
        refine WS.done ?_
        refine WR.condF rfl ?_
        refine WR.skip ?_
        refine WR.seq ?_
        refine WR.region rfl ?_
        refine S.moveT rfl ?_
        refine S.moveT rfl ?_
        refine S.buildStruct [.int _ _, .int _ _] [(0, 1), (1, 1)] Try.underlying72 ti72 rfl (by kernel_rfl) rfl rfl rfl rfl rfl rfl ?_
        refine S.moveT rfl ?_
        refine S.call ent41 rfl (s_long hS36 (by omega) (by omega)) rfl ?_
        rintro _ w55 ⟨rfl, hS55⟩
        clear hS36
        refine S.extract rfl rfl rfl ?_
        refine S.extract rfl rfl rfl ?_
        refine S.assignT rfl ?_
        refine S.assignT rfl ?_
        refine WS.done ?_
        refine WR.ret (ret2 rfl rfl rfl ?_)
        refine ⟨?_, hS55.drop⟩
        rw [if_neg c17]
        have hc0 : 0 < c := by omega
        first | exact congrArg told (ratio_up hc0 c41 c45) | exact congrArg told (ratio_same hc0 (.inr c45)) | exact congrArg told (ratio_same hc0 (.inl (by omega)))


end Go.Proofs.Yteibodpeknlchaa.B

import Derived.Test.YtogciedegglogaaWalkS
import Derived.Test.YtogciedegglogaaWalkN
namespace Go.Proofs.Ytogciedegglogaa.B
open Go.Proofs Go.RowKit
set_option linter.unusedVariables false
set_option linter.unusedSimpArgs false
set_option maxRecDepth 100000 in
set_option maxHeartbeats 4000000 in
theorem r3_right {w : World} {R : Kn} {L : List HP} (hS : St w R (L)) {a b : Int} :
    Fn Try.prog 28 #[.agg #[.int .i64 a, .int .i64 b]] w (fun v w' => v = .bool (decide (a ≤ b)) ∧ St w' R L) := by
  refine Fn.intro (n := 8) Try.func28 rfl rfl rfl ?_
  refine WR.seq ?_
  refine WR.region rfl ?_
  refine S.box hS rfl rfl rfl ?_
  intro b1 w1 hS1; clear hS
  refine S.assignC rfl ?_
  refine WS.done ?_
  refine WR.seq ?_
  refine WR.region rfl ?_
  refine S.fieldB Try.underlying31 rfl ti2 rfl rfl rfl rfl ?_
  refine S.loadB (i := 0) hS1 rfl Try.underlying2 rfl rfl rfl rfl ?_
  refine S.fieldB Try.underlying31 rfl ti2 rfl rfl rfl rfl ?_
  refine S.loadB (i := 0) hS1 rfl Try.underlying2 rfl rfl rfl rfl ?_
  refine S.leq rfl rfl rfl ?_
  refine S.assignT rfl ?_
  refine WS.done ?_
  refine WR.ret (ret1 rfl rfl ?_)
  exact ⟨rfl, hS1.drop⟩

set_option maxRecDepth 100000 in
set_option maxHeartbeats 4000000 in
theorem r3_shift {w : World} {R : Kn} {L : List HP} (hS : St w R (L)) {a b x : Int} (ha : fits a) (hb : fits b) (hx : fits x) :
    Fn Try.prog 11 #[.agg #[.int .i64 a, .int .i64 b], .int .i64 x] w (fun v w' => ∃ p q e, v = .tuple #[.agg #[.int .i64 p, .int .i64 q], .int .i64 e] ∧ ((b < a ∧ p = 0 ∧ q = 0 ∧ e = 10) ∨ (a ≤ b ∧ ((a + x < -9223372036854775808 ∨ 9223372036854775807 < a + x) ∨ (b + x < -9223372036854775808 ∨ 9223372036854775807 < b + x)) ∧ p = 0 ∧ q = 0 ∧ e = 12) ∨ (a ≤ b ∧ (-9223372036854775808 ≤ a + x ∧ a + x ≤ 9223372036854775807) ∧ (-9223372036854775808 ≤ b + x ∧ b + x ≤ 9223372036854775807) ∧ (b + x) < (a + x) ∧ p = 0 ∧ q = 0 ∧ e = 13) ∨ (a ≤ b ∧ (-9223372036854775808 ≤ a + x ∧ a + x ≤ 9223372036854775807) ∧ (-9223372036854775808 ≤ b + x ∧ b + x ≤ 9223372036854775807) ∧ (a + x) ≤ (b + x) ∧ p = (a + x) ∧ q = (b + x) ∧ e = 0)) ∧ St w' R L) := by
  refine Fn.intro (n := 38) Try.func11 rfl rfl rfl ?_
  refine WR.seq ?_
  refine WR.region rfl ?_
  refine S.box hS rfl rfl rfl ?_
  intro b2 w2 hS2; clear hS
  refine S.alloc hS2 ti31 rfl rfl ?_
  intro b4 w4 hS4; clear hS2
  refine S.assignC rfl ?_
  refine WS.done ?_
  refine WR.seq ?_
  refine WR.seq ?_
  refine WR.region rfl ?_
  refine S.loadBA (i := 1) hS4 rfl Try.underlying31 rfl ti31 rfl rfl rfl rfl ?_
  refine S.call ent28 rfl (r3_right hS4 ) rfl ?_
  rintro _ w11 ⟨rfl, hS11⟩
  clear hS4
  refine S.notD rfl rfl ?_
  refine WS.done ?_
  refine WR.condD rfl (fun c12 => ?_) (fun c12 => ?_)
  ·
    skip
    refine WR.seq ?_
    refine WR.region rfl ?_
    refine S.buildZero ti31 rfl (by kernel_rfl) rfl ?_
    refine S.storeB (i := 0) hS11 rfl ti31 rfl rfl rfl rfl rfl rfl rfl rfl ?_
    intro w2001 hS2001; clear hS11
    refine S.assignC rfl ?_
    refine WS.done ?_
    refine WR.ret (retC1 rfl rfl (run_loadBA (i := 0) hS2001 rfl Try.underlying31 rfl ti31 rfl rfl) rfl ?_)
    exact ⟨_, _, _, rfl, by omega, hS2001.drop.drop⟩
  ·
    skip
    refine WR.skip ?_
    refine WR.seq ?_
    refine WR.region rfl ?_
    refine S.fieldB Try.underlying31 rfl ti2 rfl rfl rfl rfl ?_
    refine S.loadB (i := 1) hS11 rfl Try.underlying2 rfl rfl rfl rfl ?_
    refine S.moveT rfl ?_
    refine S.call ent29 rfl (r_plus2 hS11 (by exact ha) (by exact hx)) rfl ?_
    rintro _ w18 ⟨rfl, hS18⟩
    clear hS11
    obtain ⟨p18, e18, hv18, hF18⟩ := told_cases (a + x)
    refine S.as (d := 18) rfl hv18 ?_
    refine S.moveT rfl ?_
    refine S.extract rfl rfl rfl ?_
    refine S.extract rfl rfl rfl ?_
    refine S.assignT rfl ?_
    refine S.assignT rfl ?_
    refine WS.done ?_
    refine WR.seq ?_
    refine WR.region rfl ?_
    refine S.fieldB Try.underlying31 rfl ti2 rfl rfl rfl rfl ?_
    refine S.loadB (i := 1) hS18 rfl Try.underlying2 rfl rfl rfl rfl ?_
    refine S.moveT rfl ?_
    refine S.call ent29 rfl (r_plus2 hS18 (by exact hb) (by exact hx)) rfl ?_
    rintro _ w25 ⟨rfl, hS25⟩
    clear hS18
    obtain ⟨p25, e25, hv25, hF25⟩ := told_cases (b + x)
    refine S.as (d := 25) rfl hv25 ?_
    refine S.moveT rfl ?_
    refine S.extract rfl rfl rfl ?_
    refine S.extract rfl rfl rfl ?_
    refine S.assignT rfl ?_
    refine S.assignT rfl ?_
    refine WS.done ?_
    refine WR.seq ?_
    refine WR.seq ?_
    refine WR.region rfl ?_
    refine S.moveT rfl ?_
    refine S.neq rfl rfl rfl ?_
    refine S.moveT rfl ?_
    refine S.splitD (d := 30) rfl (fun c30 => ?_) (fun c30 => ?_)
    ·
      skip
      refine S.off rfl ?_
      refine S.off rfl ?_
      refine S.pickTC rfl rfl ?_
      refine WS.done ?_
      refine WR.condT rfl ?_
      refine WR.seq ?_
      refine WR.region rfl ?_
      refine S.buildZero ti31 rfl (by kernel_rfl) rfl ?_
      refine S.storeB (i := 0) hS25 rfl ti31 rfl rfl rfl rfl rfl rfl rfl rfl ?_
      intro w2002 hS2002; clear hS25
      refine S.assignC rfl ?_
      refine WS.done ?_
      refine WR.ret (retC1 rfl rfl (run_loadBA (i := 0) hS2002 rfl Try.underlying31 rfl ti31 rfl rfl) rfl ?_)
      exact ⟨_, _, _, rfl, by omega, hS2002.drop.drop⟩
    ·
      skip
      refine S.moveT rfl ?_
      refine S.neq rfl rfl rfl ?_
      refine S.pickF rfl rfl ?_
      refine WS.done ?_
      refine WR.condD rfl (fun c33 => ?_) (fun c33 => ?_)
      ·
        skip
        refine WR.seq ?_
        refine WR.region rfl ?_
        refine S.buildZero ti31 rfl (by kernel_rfl) rfl ?_
        refine S.storeB (i := 0) hS25 rfl ti31 rfl rfl rfl rfl rfl rfl rfl rfl ?_
        intro w2003 hS2003; clear hS25
        refine S.assignC rfl ?_
        refine WS.done ?_
        refine WR.ret (retC1 rfl rfl (run_loadBA (i := 0) hS2003 rfl Try.underlying31 rfl ti31 rfl rfl) rfl ?_)
        exact ⟨_, _, _, rfl, by omega, hS2003.drop.drop⟩
      ·
        skip
        refine WR.skip ?_
        refine WR.seq ?_
        refine WR.region rfl ?_
        refine S.moveT rfl ?_
        refine S.moveT rfl ?_
        refine S.buildStruct [.int _ _, .int _ _] [(0, 1), (1, 1)] Try.underlying31 ti31 rfl (by kernel_rfl) rfl rfl rfl rfl rfl rfl ?_
        refine S.storeB (i := 0) hS25 rfl ti31 rfl rfl rfl rfl rfl rfl rfl rfl ?_
        intro w2004 hS2004; clear hS25
        refine S.assignC rfl ?_
        refine WS.done ?_
        refine WR.ret (retC1 rfl rfl (run_loadBA (i := 0) hS2004 rfl Try.underlying31 rfl ti31 rfl rfl) rfl ?_)
        exact ⟨_, _, _, rfl, by omega, hS2004.drop.drop⟩

set_option maxRecDepth 100000 in
set_option maxHeartbeats 4000000 in
theorem r3_grow {w : World} {R : Kn} {L : List HP} (hS : St w R (L)) {a b x y : Int} (ha : fits a) (hb : fits b) (hx : fits x) (hy : fits y) :
    Fn Try.prog 13 #[.agg #[.int .i64 a, .int .i64 b], .int .i64 x, .int .i64 y] w (fun v w' => ∃ p q e, v = .tuple #[.agg #[.int .i64 p, .int .i64 q], .int .i64 e] ∧ ((b < a ∧ p = 0 ∧ q = 0 ∧ e = 10) ∨ (a ≤ b ∧ ((a - x < -9223372036854775808 ∨ 9223372036854775807 < a - x) ∨ (b + y < -9223372036854775808 ∨ 9223372036854775807 < b + y)) ∧ p = 0 ∧ q = 0 ∧ e = 12) ∨ (a ≤ b ∧ (-9223372036854775808 ≤ a - x ∧ a - x ≤ 9223372036854775807) ∧ (-9223372036854775808 ≤ b + y ∧ b + y ≤ 9223372036854775807) ∧ (b + y) < (a - x) ∧ p = 0 ∧ q = 0 ∧ e = 13) ∨ (a ≤ b ∧ (-9223372036854775808 ≤ a - x ∧ a - x ≤ 9223372036854775807) ∧ (-9223372036854775808 ≤ b + y ∧ b + y ≤ 9223372036854775807) ∧ (a - x) ≤ (b + y) ∧ p = (a - x) ∧ q = (b + y) ∧ e = 0)) ∧ St w' R L) := by
  refine Fn.intro (n := 44) Try.func13 rfl rfl rfl ?_
  refine WR.seq ?_
  refine WR.region rfl ?_
  refine S.box hS rfl rfl rfl ?_
  intro b3 w3 hS3; clear hS
  refine S.alloc hS3 ti31 rfl rfl ?_
  intro b6 w6 hS6; clear hS3
  refine S.assignC rfl ?_
  refine WS.done ?_
  refine WR.seq ?_
  refine WR.seq ?_
  refine WR.region rfl ?_
  refine S.loadBA (i := 1) hS6 rfl Try.underlying31 rfl ti31 rfl rfl rfl rfl ?_
  refine S.call ent28 rfl (r3_right hS6 ) rfl ?_
  rintro _ w13 ⟨rfl, hS13⟩
  clear hS6
  refine S.notD rfl rfl ?_
  refine WS.done ?_
  refine WR.condD rfl (fun c14 => ?_) (fun c14 => ?_)
  ·
    skip
    refine WR.seq ?_
    refine WR.region rfl ?_
    refine S.buildZero ti31 rfl (by kernel_rfl) rfl ?_
    refine S.storeB (i := 0) hS13 rfl ti31 rfl rfl rfl rfl rfl rfl rfl rfl ?_
    intro w2001 hS2001; clear hS13
    refine S.assignC rfl ?_
    refine WS.done ?_
    refine WR.ret (retC1 rfl rfl (run_loadBA (i := 0) hS2001 rfl Try.underlying31 rfl ti31 rfl rfl) rfl ?_)
    exact ⟨_, _, _, rfl, by omega, hS2001.drop.drop⟩
  ·
    skip
    refine WR.skip ?_
    refine WR.seq ?_
    refine WR.region rfl ?_
    refine S.fieldB Try.underlying31 rfl ti2 rfl rfl rfl rfl ?_
    refine S.loadB (i := 1) hS13 rfl Try.underlying2 rfl rfl rfl rfl ?_
    refine S.moveT rfl ?_
    refine S.call ent30 rfl (r_minus2 hS13 (by exact ha) (by exact hx)) rfl ?_
    rintro _ w20 ⟨rfl, hS20⟩
    clear hS13
    obtain ⟨p20, e20, hv20, hF20⟩ := told_cases (a - x)
    refine S.as (d := 20) rfl hv20 ?_
    refine S.moveT rfl ?_
    refine S.extract rfl rfl rfl ?_
    refine S.extract rfl rfl rfl ?_
    refine S.assignT rfl ?_
    refine S.assignT rfl ?_
    refine WS.done ?_
    refine WR.seq ?_
    refine WR.region rfl ?_
    refine S.fieldB Try.underlying31 rfl ti2 rfl rfl rfl rfl ?_
    refine S.loadB (i := 1) hS20 rfl Try.underlying2 rfl rfl rfl rfl ?_
    refine S.moveT rfl ?_
    refine S.call ent29 rfl (r_plus2 hS20 (by exact hb) (by exact hy)) rfl ?_
    rintro _ w27 ⟨rfl, hS27⟩
    clear hS20
    obtain ⟨p27, e27, hv27, hF27⟩ := told_cases (b + y)
    refine S.as (d := 27) rfl hv27 ?_
    refine S.moveT rfl ?_
    refine S.extract rfl rfl rfl ?_
    refine S.extract rfl rfl rfl ?_
    refine S.assignT rfl ?_
    refine S.assignT rfl ?_
    refine WS.done ?_
    refine WR.seq ?_
    refine WR.seq ?_
    refine WR.region rfl ?_
    refine S.moveT rfl ?_
    refine S.neq rfl rfl rfl ?_
    refine S.moveT rfl ?_
    refine S.splitD (d := 32) rfl (fun c32 => ?_) (fun c32 => ?_)
    ·
      skip
      refine S.off rfl ?_
      refine S.off rfl ?_
      refine S.pickTC rfl rfl ?_
      refine WS.done ?_
      refine WR.condT rfl ?_
      refine WR.seq ?_
      refine WR.region rfl ?_
      refine S.buildZero ti31 rfl (by kernel_rfl) rfl ?_
      refine S.storeB (i := 0) hS27 rfl ti31 rfl rfl rfl rfl rfl rfl rfl rfl ?_
      intro w2002 hS2002; clear hS27
      refine S.assignC rfl ?_
      refine WS.done ?_
      refine WR.ret (retC1 rfl rfl (run_loadBA (i := 0) hS2002 rfl Try.underlying31 rfl ti31 rfl rfl) rfl ?_)
      exact ⟨_, _, _, rfl, by omega, hS2002.drop.drop⟩
    ·
      skip
      refine S.moveT rfl ?_
      refine S.neq rfl rfl rfl ?_
      refine S.pickF rfl rfl ?_
      refine WS.done ?_
      refine WR.condD rfl (fun c35 => ?_) (fun c35 => ?_)
      ·
        skip
        refine WR.seq ?_
        refine WR.region rfl ?_
        refine S.buildZero ti31 rfl (by kernel_rfl) rfl ?_
        refine S.storeB (i := 0) hS27 rfl ti31 rfl rfl rfl rfl rfl rfl rfl rfl ?_
        intro w2003 hS2003; clear hS27
        refine S.assignC rfl ?_
        refine WS.done ?_
        refine WR.ret (retC1 rfl rfl (run_loadBA (i := 0) hS2003 rfl Try.underlying31 rfl ti31 rfl rfl) rfl ?_)
        exact ⟨_, _, _, rfl, by omega, hS2003.drop.drop⟩
      ·
        skip
        refine WR.skip ?_
        refine WR.seq ?_
        refine WR.seq ?_
        refine WR.region rfl ?_
        refine S.moveT rfl ?_
        refine S.moveT rfl ?_
        refine S.gtr rfl rfl rfl ?_
        refine WS.done ?_
        refine WR.condD rfl (fun c39 => ?_) (fun c39 => ?_)
        ·
          skip
          refine WR.seq ?_
          refine WR.region rfl ?_
          refine S.buildZero ti31 rfl (by kernel_rfl) rfl ?_
          refine S.storeB (i := 0) hS27 rfl ti31 rfl rfl rfl rfl rfl rfl rfl rfl ?_
          intro w2004 hS2004; clear hS27
          refine S.assignC rfl ?_
          refine WS.done ?_
          refine WR.ret (retC1 rfl rfl (run_loadBA (i := 0) hS2004 rfl Try.underlying31 rfl ti31 rfl rfl) rfl ?_)
          exact ⟨_, _, _, rfl, by omega, hS2004.drop.drop⟩
        ·
          skip
          refine WR.skip ?_
          refine WR.seq ?_
          refine WR.region rfl ?_
          refine S.moveT rfl ?_
          refine S.moveT rfl ?_
          refine S.buildStruct [.int _ _, .int _ _] [(0, 1), (1, 1)] Try.underlying31 ti31 rfl (by kernel_rfl) rfl rfl rfl rfl rfl rfl ?_
          refine S.storeB (i := 0) hS27 rfl ti31 rfl rfl rfl rfl rfl rfl rfl rfl ?_
          intro w2005 hS2005; clear hS27
          refine S.assignC rfl ?_
          refine WS.done ?_
          refine WR.ret (retC1 rfl rfl (run_loadBA (i := 0) hS2005 rfl Try.underlying31 rfl ti31 rfl rfl) rfl ?_)
          exact ⟨_, _, _, rfl, by omega, hS2005.drop.drop⟩

set_option maxRecDepth 100000 in
set_option maxHeartbeats 4000000 in
theorem r3_mid {w : World} {R : Kn} {L : List HP} (hS : St w R (L)) {a b : Int} (ha : fits a) (hb : fits b) :
    Fn Try.prog 16 #[.agg #[.int .i64 a, .int .i64 b]] w (fun v w' => v = .int .i64 (md a b) ∧ St w' R L) := by
  have hd := md_cases a b
  have hfa := fits_big ha
  have hfb := fits_big hb
  refine Fn.intro (n := 24) Try.func16 rfl rfl rfl ?_
  refine WR.seq ?_
  refine WR.region rfl ?_
  refine S.box hS rfl rfl rfl ?_
  intro b1 w1 hS1; clear hS
  refine S.assignC rfl ?_
  refine WS.done ?_
  refine WR.seq ?_
  refine WR.seq ?_
  refine WR.region rfl ?_
  refine S.loadBA (i := 0) hS1 rfl Try.underlying31 rfl ti31 rfl rfl rfl rfl ?_
  refine S.call ent28 rfl (r3_right hS1 ) rfl ?_
  rintro _ w7 ⟨rfl, hS7⟩
  clear hS1
  refine S.notD rfl rfl ?_
  refine WS.done ?_
  refine WR.condD rfl (fun c8 => ?_) (fun c8 => ?_)
  ·
    skip
    refine WR.seq ?_
    refine WR.region rfl ?_
    refine S.assignC rfl ?_
    refine WS.done ?_
    refine WR.ret (ret1 rfl rfl ?_)
    exact ⟨congrArg (Value.int .i64) (by omega), hS7.drop⟩
  ·
    skip
    refine WR.skip ?_
    refine WR.seq ?_
    refine WR.region rfl ?_
    refine S.call ent31 rfl (r_of hS7 (by decide)) rfl ?_
    rintro v9 w9 ⟨R9, hR9, hN9, hS9⟩
    clear hS7
    have hM9 := hN9
    obtain ⟨ng9, s9, ds9, rfl, hro9, hd9, hcn9, hnz9, hz9⟩ := hN9
    obtain ⟨aa9, cc9, rfl, hll9⟩ := hro9.len
    refine S.alloc hS9 ti58 rfl rfl ?_
    intro b3 w3 hS3; clear hS9
    refine S.storeB (i := 0) hS3 rfl ti58 rfl rfl rfl rfl rfl rfl rfl rfl ?_
    intro w2001 hS2001; clear hS3
    refine WS.done ?_
    refine WR.seq ?_
    refine WR.regionW (fun j => false) 15 rfl mixed hS2001 ?_
    intro w6002 hS6002; clear hS2001; have hC := hS6002
    refine WA.take (fuel := 14) 0 rfl (by kernel_rfl) (by kernel_rfl) (by kernel_rfl) (by kernel_rfl) rfl rfl hC ?_
    refine Q.fieldB Try.underlying31 rfl ti2 rfl rfl rfl rfl ?_
    refine WQ.done ?_
    refine WA.take (fuel := 13) 1 rfl (by kernel_rfl) (by kernel_rfl) (by kernel_rfl) (by kernel_rfl) rfl rfl hC ?_
    refine Q.loadB (i := 1) rfl Try.underlying2 rfl rfl rfl rfl ?_
    refine WQ.done ?_
    refine WA.take (fuel := 12) 3 rfl (by kernel_rfl) (by kernel_rfl) (by kernel_rfl) (by kernel_rfl) rfl rfl hC ?_
    refine Q.fieldB Try.underlying31 rfl ti2 rfl rfl rfl rfl ?_
    refine WQ.done ?_
    refine WA.take (fuel := 11) 4 rfl (by kernel_rfl) (by kernel_rfl) (by kernel_rfl) (by kernel_rfl) rfl rfl hC ?_
    refine Q.loadB (i := 1) rfl Try.underlying2 rfl rfl rfl rfl ?_
    refine WQ.done ?_
    refine WA.take (fuel := 10) 7 rfl (by kernel_rfl) (by kernel_rfl) (by kernel_rfl) (by kernel_rfl) rfl rfl hC ?_
    refine Q.loadBA (i := 0) rfl Try.underlying58 rfl ti58 rfl rfl rfl rfl ?_
    refine WQ.done ?_
    refine WA.one (fuel := 9) 2 rfl (by kernel_rfl) rfl ?_
    refine S.call ent31 rfl (r_of hS6002 (by exact ha)) rfl ?_
    rintro v13 w13 ⟨R13, hR13, hN13, hS13⟩
    clear hS6002
    have hM13 := hN13
    obtain ⟨ng13, s13, ds13, rfl, hro13, hd13, hcn13, hnz13, hz13⟩ := hN13
    obtain ⟨aa13, cc13, rfl, hll13⟩ := hro13.len
    replace hro9 := hro9.mono hR13
    refine WS.done ⟨fun _ => (hS13.weak hR13), ?_⟩
    replace hC := (hS13.weak hR13)
    refine WA.one (fuel := 8) 5 rfl (by kernel_rfl) rfl ?_
    refine S.call ent31 rfl (r_of hS13 (by exact hb)) rfl ?_
    rintro v16 w16 ⟨R16, hR16, hN16, hS16⟩
    clear hS13
    have hM16 := hN16
    obtain ⟨ng16, s16, ds16, rfl, hro16, hd16, hcn16, hnz16, hz16⟩ := hN16
    obtain ⟨aa16, cc16, rfl, hll16⟩ := hro16.len
    replace hro9 := hro9.mono hR16
    replace hro13 := hro13.mono hR16
    refine WS.done ⟨fun _ => ((hS16.weak hR16).weak hR13), ?_⟩
    replace hC := ((hS16.weak hR16).weak hR13)
    refine WA.one (fuel := 7) 6 rfl (by kernel_rfl) rfl ?_
    refine S.call ent34 rfl (r_add hS16 (by exact hM13.mono hR16) (by exact hM16) (by exact hfa) (by exact hfb)) rfl ?_
    rintro v17 w17 ⟨R17, hR17, hN17, hS17⟩
    clear hS16
    have hM17 := hN17
    obtain ⟨ng17, s17, ds17, rfl, hro17, hd17, hcn17, hnz17, hz17⟩ := hN17
    obtain ⟨aa17, cc17, rfl, hll17⟩ := hro17.len
    replace hro9 := hro9.mono hR17
    replace hro13 := hro13.mono hR17
    replace hro16 := hro16.mono hR17
    refine WS.done ⟨fun _ => (((hS17.weak hR17).weak hR16).weak hR13), ?_⟩
    replace hC := (((hS17.weak hR17).weak hR16).weak hR13)
    refine WA.one (fuel := 6) 8 rfl (by kernel_rfl) rfl ?_
    refine S.call ent33 rfl (r_div hS17 (by exact hM17) (by exact hM9.mono (hR13.trans (hR16.trans hR17))) (by exact lt_big (by unfold fits at ha hb; omega)) (by exact lt_big (by decide)) (by decide)) rfl ?_
    rintro v19 w19 ⟨R19, hR19, hN19, hS19⟩
    clear hS17
    have hM19 := hN19
    obtain ⟨ng19, s19, ds19, rfl, hro19, hd19, hcn19, hnz19, hz19⟩ := hN19
    obtain ⟨aa19, cc19, rfl, hll19⟩ := hro19.len
    replace hro9 := hro9.mono hR19
    replace hro13 := hro13.mono hR19
    replace hro16 := hro16.mono hR19
    replace hro17 := hro17.mono hR19
    refine WS.done ⟨fun _ => ((((hS19.weak hR19).weak hR17).weak hR16).weak hR13), ?_⟩
    replace hC := ((((hS19.weak hR19).weak hR17).weak hR16).weak hR13)
    refine WA.one (fuel := 5) 9 rfl (by kernel_rfl) rfl ?_
    refine S.call ent32 rfl (r_long hS19 (by exact hM19)) rfl ?_
    rintro _ w20 ⟨x20, rfl, hf20, hS20⟩
    clear hS19
    refine WS.done ⟨fun _ => ((((hS20.weak hR19).weak hR17).weak hR16).weak hR13), ?_⟩
    replace hC := ((((hS20.weak hR19).weak hR17).weak hR16).weak hR13)
    refine WA.take (fuel := 4) 10 rfl (by kernel_rfl) (by kernel_rfl) (by kernel_rfl) (by kernel_rfl) rfl rfl hC ?_
    refine Q.moveT rfl ?_
    refine WQ.done ?_
    refine WA.take (fuel := 3) 11 rfl (by kernel_rfl) (by kernel_rfl) (by kernel_rfl) (by kernel_rfl) rfl rfl hC ?_
    refine Q.extract rfl rfl rfl ?_
    refine WQ.done ?_
    refine WA.take (fuel := 2) 12 rfl (by kernel_rfl) (by kernel_rfl) (by kernel_rfl) (by kernel_rfl) rfl rfl hC ?_
    refine Q.extract rfl rfl rfl ?_
    refine WQ.done ?_
    refine WA.take (fuel := 1) 13 rfl (by kernel_rfl) (by kernel_rfl) (by kernel_rfl) (by kernel_rfl) rfl rfl hC ?_
    refine Q.assignT rfl ?_
    refine WQ.done ?_
    refine WA.take (fuel := 0) 14 rfl (by kernel_rfl) (by kernel_rfl) (by kernel_rfl) (by kernel_rfl) rfl rfl hC ?_
    refine Q.assignT rfl ?_
    refine WQ.done ?_
    refine WA.done (by kernel_rfl) ?_
    clear hC
    refine WR.seq ?_
    refine WR.region rfl ?_
    refine S.moveT rfl ?_
    refine S.assignT rfl ?_
    refine WS.done ?_
    refine WR.ret (ret1 rfl rfl ?_)
    exact ⟨congrArg (Value.int .i64) ((hf20 (mid_fits ha hb)).trans (mid_quot (by omega))), (hS20.drop.drop).weak (hR9.trans (hR13.trans (hR16.trans (hR17.trans hR19))))⟩

set_option maxRecDepth 100000 in
set_option maxHeartbeats 4000000 in
theorem l3_of {w : World} {R : Kn} {L : List HP} (hS : St w R (L)) {a b : Int} :
    Fn Try.prog 12 #[.agg #[.int .i64 a, .int .i64 b]] w (fun v w' => v = .agg #[.int .i64 a, .int .i64 b] ∧ St w' R L) := by
  refine Fn.intro (n := 8) Try.func12 rfl rfl rfl ?_
  refine WR.seq ?_
  refine WR.region rfl ?_
  refine S.box hS rfl rfl rfl ?_
  intro b1 w1 hS1; clear hS
  refine S.alloc hS1 ti31 rfl rfl ?_
  intro b2 w2 hS2; clear hS1
  refine WS.done ?_
  refine WR.seq ?_
  refine WR.region rfl ?_
  refine S.fieldB Try.underlying23 rfl ti2 rfl rfl rfl rfl ?_
  refine S.loadB (i := 1) hS2 rfl Try.underlying2 rfl rfl rfl rfl ?_
  refine S.fieldB Try.underlying23 rfl ti2 rfl rfl rfl rfl ?_
  refine S.loadB (i := 1) hS2 rfl Try.underlying2 rfl rfl rfl rfl ?_
  refine S.buildStruct [.int _ _, .int _ _] [(0, 1), (1, 1)] Try.underlying31 ti31 rfl (by kernel_rfl) rfl rfl rfl rfl rfl rfl ?_
  refine S.storeB (i := 0) hS2 rfl ti31 rfl rfl rfl rfl rfl rfl rfl rfl ?_
  intro w2001 hS2001; clear hS2
  refine WS.done ?_
  refine WR.ret (retC rfl rfl (run_loadBA (i := 0) hS2001 rfl Try.underlying31 rfl ti31 rfl rfl) ?_)
  exact ⟨rfl, hS2001.drop.drop⟩

set_option maxRecDepth 100000 in
set_option maxHeartbeats 4000000 in
theorem r3_rights {w : World} {R : Kn} {L : List HP} (hS : St w R (L)) {v0 : Value} {xs : List (Int × Int)} (h0 : Ro R gpE 2 v0 xs) (hm : xs.length ≤ 1000000) :
    Fn Try.prog 38 #[v0] w (fun v w' => v = .bool (decide (∀ x ∈ xs, x.1 ≤ x.2)) ∧ St w' R L) := by
  obtain ⟨a0, c0, rfl, hl0⟩ := h0.len
  refine Fn.intro (n := 16) Try.func38 rfl rfl rfl ?_
  refine WR.seq ?_
  refine WR.region rfl ?_
  refine S.assignC rfl ?_
  refine WS.done ?_
  refine WR.seq ?_
  refine WR.seq ?_
  refine WR.region rfl ?_
  refine S.assignC rfl ?_
  refine WS.done ?_
  refine WR.block ?_
  refine WR.loopE (fun rq mm rr wr => ∃ (i : Nat), mm = xs.length - i ∧ (i ≤ xs.length ∧ (∀ x ∈ xs.take i, x.1 ≤ x.2)) ∧ rr 3 = .int .i64 (i : Int) ∧ Agr [0] rr rq ∧ St wr R L) ⟨0, rfl, (by exact ⟨by omega, fun x h => by simp at h⟩), rfl, ⟨rfl, trivial⟩, hS⟩ ?_
  rintro mm rr w1001 ⟨i, hm1001, ⟨hi, hall⟩, hr1001_3, hA1001, hS1001⟩
  obtain ⟨rr, rfl⟩ := agrBack hA1001
  clear hA1001
  obtain ⟨rr, rfl⟩ := back1 (r := rr) hr1001_3
  clear hr1001_3
  refine WR.seq ?_
  refine WR.seq ?_
  refine WR.region rfl ?_
  refine S.moveT rfl ?_
  refine S.moveT rfl ?_
  refine S.lenSl Try.underlying46 rfl rfl ?_
  refine S.lss rfl rfl rfl ?_
  refine WS.done ?_
  refine WR.condD rfl (fun c7 => ?_) (fun c7 => ?_)
  ·
    skip
    refine WR.skip ?_
    refine WR.seq ?_
    refine WR.block ?_
    refine WR.seq ?_
    refine WR.region rfl ?_
    refine S.moveT rfl ?_
    refine S.moveT rfl ?_
    refine S.indexRo h0 Try.underlying46 ti31 rfl rfl (by omega) rfl ?_
    intro ad12 u12 hu12 hl12 hc12
    refine S.loadRoA hS1001 hc12 hl12 Try.underlying31 rfl ti31 rfl rfl ?_
    refine S.call ent28 rfl (r3_right hS1001 ) rfl ?_
    rintro _ w14 ⟨rfl, hS14⟩
    clear hS1001
    refine S.notD rfl rfl ?_
    refine WS.done ?_
    refine WR.condD rfl (fun c15 => ?_) (fun c15 => ?_)
    ·
      skip
      refine WR.seq ?_
      refine WR.region rfl ?_
      refine S.assignC rfl ?_
      refine WS.done ?_
      refine WR.ret (ret1 rfl rfl ?_)
      exact ⟨congrArg Value.bool (decide_eq_false (fun h => absurd (h _ (List.mem_of_getElem? hu12)) (by omega))).symm, hS14⟩
    ·
      skip
      refine WR.skip ?_
      refine WR.region rfl ?_
      refine S.moveT rfl ?_
      first
        | refine S.addN rfl rfl rfl (by omega) ?_
        | refine S.add rfl rfl rfl ?_
      refine S.assignT rfl ?_
      refine WS.done ?_
      exact ⟨_, (by omega), ⟨i + 1, rfl, (by exact ⟨by omega, all_take hall (getZ hu12) (by omega)⟩), rfl, ⟨rfl, trivial⟩, hS14⟩⟩
  ·
    skip
    refine WR.exit ?_
    refine WR.seq ?_
    refine WR.region rfl ?_
    refine S.assignC rfl ?_
    refine WS.done ?_
    refine WR.ret (ret1 rfl rfl ?_)
    rw [List.take_of_length_le (by omega)] at hall
    exact ⟨congrArg Value.bool (decide_eq_true hall).symm, hS1001⟩

set_option maxRecDepth 100000 in
set_option maxHeartbeats 4000000 in
theorem r3_meet {w : World} {R : Kn} {L : List HP} (hS : St w R (L)) {v0 : Value} {xs : List (Int × Int)} (h0 : Ro R gpE 2 v0 xs) (hm : xs.length ≤ 1000000) :
    Fn Try.prog 22 #[v0] w (fun v w' => ∃ p q e, v = .tuple #[.agg #[.int .i64 p, .int .i64 q], .int .i64 e] ∧ FoldP meetF (-9223372036854775808, 9223372036854775807) xs p q e ∧ St w' R L) := by
  obtain ⟨a0, c0, rfl, hl0⟩ := h0.len
  refine Fn.intro (n := 40) Try.func22 rfl rfl rfl ?_
  refine WR.seq ?_
  refine WR.region rfl ?_
  refine S.alloc hS ti31 rfl rfl ?_
  intro b2 w2 hS2; clear hS
  refine S.assignC rfl ?_
  refine WS.done ?_
  refine WR.seq ?_
  refine WR.seq ?_
  refine WR.region rfl ?_
  refine S.moveT rfl ?_
  refine S.call ent38 rfl (r3_rights hS2 (by exact h0) (by exact hm)) rfl ?_
  rintro _ w7 ⟨rfl, hS7⟩
  clear hS2
  refine S.notD rfl rfl ?_
  refine WS.done ?_
  refine WR.condD rfl (fun c8 => ?_) (fun c8 => ?_)
  ·
    skip
    refine WR.seq ?_
    refine WR.region rfl ?_
    refine S.buildZero ti31 rfl (by kernel_rfl) rfl ?_
    refine S.storeB (i := 0) hS7 rfl ti31 rfl rfl rfl rfl rfl rfl rfl rfl ?_
    intro w2001 hS2001; clear hS7
    refine S.assignC rfl ?_
    refine WS.done ?_
    refine WR.ret (retC1 rfl rfl (run_loadBA (i := 0) hS2001 rfl Try.underlying31 rfl ti31 rfl rfl) rfl ?_)
    exact ⟨_, _, _, rfl, .inl ⟨c8, rfl, rfl, rfl⟩, hS2001.drop⟩
  ·
    skip
    refine WR.skip ?_
    refine WR.seq ?_
    refine WR.region rfl ?_
    refine S.buildStruct [.int _ _, .int _ _] [(0, 1), (1, 1)] Try.underlying31 ti31 rfl (by kernel_rfl) rfl rfl rfl rfl rfl rfl ?_
    refine S.alloc hS7 ti31 rfl rfl ?_
    intro b4 w4 hS4; clear hS7
    refine S.storeB (i := 0) hS4 rfl ti31 rfl rfl rfl rfl rfl rfl rfl rfl ?_
    intro w2002 hS2002; clear hS4
    refine WS.done ?_
    refine WR.seq ?_
    refine WR.seq ?_
    refine WR.region rfl ?_
    refine S.assignC rfl ?_
    refine WS.done ?_
    refine WR.block ?_
    refine WR.loopE (fun rq mm rr wr => ∃ (i : Nat) (c d : Int), mm = xs.length - i ∧ ((i ≤ xs.length) ∧ (xs.take i).foldl meetF (-9223372036854775808, 9223372036854775807) = (c, d)) ∧ rr 5 = .int .i64 (i : Int) ∧ Agr [0, 2, 4] rr rq ∧ St wr R (blk b4 (.cells (#[.int .i64 c, .int .i64 d]) 31 (0, 0)) :: blk b2 (.cells (#[.int .i64 0, .int .i64 0]) 31 (0, 0)) :: L)) ⟨0, _, _, rfl, (by exact ⟨by omega, rfl⟩), rfl, ⟨rfl, rfl, rfl, trivial⟩, hS2002⟩ ?_
    rintro mm rr w1001 ⟨i, c, d, hm1001, ⟨hi, hfd⟩, hr1001_5, hA1001, hS1001⟩
    obtain ⟨rr, rfl⟩ := agrBack hA1001
    clear hA1001
    obtain ⟨rr, rfl⟩ := back1 (r := rr) hr1001_5
    clear hr1001_5
    refine WR.seq ?_
    refine WR.seq ?_
    refine WR.region rfl ?_
    refine S.moveT rfl ?_
    refine S.moveT rfl ?_
    refine S.lenSl Try.underlying46 rfl rfl ?_
    refine S.lss rfl rfl rfl ?_
    refine WS.done ?_
    refine WR.condD rfl (fun c14 => ?_) (fun c14 => ?_)
    ·
      skip
      refine WR.skip ?_
      refine WR.seq ?_
      refine WR.block ?_
      refine WR.seq ?_
      refine WR.regionW (fun j => Nat.beq j 9) 10 rfl mixed hS1001 ?_
      intro w6003 hS6003; clear hS1001; have hC := hS6003
      refine WA.take (fuel := 9) 0 rfl (by kernel_rfl) (by kernel_rfl) (by kernel_rfl) (by kernel_rfl) rfl rfl hC ?_
      refine Q.fieldB Try.underlying31 rfl ti2 rfl rfl rfl rfl ?_
      refine WQ.done ?_
      refine WA.take (fuel := 8) 1 rfl (by kernel_rfl) (by kernel_rfl) (by kernel_rfl) (by kernel_rfl) rfl rfl hC ?_
      refine Q.loadB (i := 0) rfl Try.underlying2 rfl rfl rfl rfl ?_
      refine WQ.done ?_
      refine WA.take (fuel := 7) 2 rfl (by kernel_rfl) (by kernel_rfl) (by kernel_rfl) (by kernel_rfl) rfl rfl hC ?_
      refine Q.moveT rfl ?_
      refine WQ.done ?_
      refine WA.take (fuel := 6) 3 rfl (by kernel_rfl) (by kernel_rfl) (by kernel_rfl) (by kernel_rfl) rfl rfl hC ?_
      refine Q.moveT rfl ?_
      refine WQ.done ?_
      refine WA.take (fuel := 5) 4 rfl (by kernel_rfl) (by kernel_rfl) (by kernel_rfl) (by kernel_rfl) rfl rfl hC ?_
      refine Q.indexRo h0 Try.underlying46 ti31 rfl rfl (by omega) rfl ?_
      intro ad21 u21 hu21 hl21 hc21
      refine WQ.done ?_
      refine WA.take (fuel := 4) 5 rfl (by kernel_rfl) (by kernel_rfl) (by kernel_rfl) (by kernel_rfl) rfl rfl hC ?_
      refine Q.fieldElt Try.underlying31 rfl ti2 rfl rfl rfl ?_
      refine WQ.done ?_
      refine WA.take (fuel := 3) 6 rfl (by kernel_rfl) (by kernel_rfl) (by kernel_rfl) (by kernel_rfl) rfl rfl hC ?_
      refine Q.loadRoF hc21 rfl Try.underlying2 rfl rfl rfl ?_
      refine WQ.done ?_
      refine WA.one (fuel := 2) 7 rfl (by kernel_rfl) rfl ?_
      refine S.max2 rfl rfl rfl ?_
      refine WS.done ⟨fun _ => hS6003, ?_⟩
      replace hC := hS6003
      refine WA.take (fuel := 1) 8 rfl (by kernel_rfl) (by kernel_rfl) (by kernel_rfl) (by kernel_rfl) rfl rfl hC ?_
      refine Q.fieldB Try.underlying31 rfl ti2 rfl rfl rfl rfl ?_
      refine WQ.done ?_
      refine WA.one (fuel := 0) 9 rfl (by kernel_rfl) rfl ?_
      refine S.storeB (i := 0) hS6003 rfl ti2 rfl rfl rfl rfl rfl rfl rfl rfl ?_
      intro w2004 hS2004; clear hS6003
      refine WS.done ⟨fun h => absurd h (by decide), ?_⟩
      refine WA.done (by kernel_rfl) ?_
      clear hC
      refine WR.regionW (fun j => Nat.beq j 9) 10 rfl mixed hS2004 ?_
      intro w6005 hS6005; clear hS2004; have hC := hS6005
      refine WA.take (fuel := 9) 0 rfl (by kernel_rfl) (by kernel_rfl) (by kernel_rfl) (by kernel_rfl) rfl rfl hC ?_
      refine Q.fieldB Try.underlying31 rfl ti2 rfl rfl rfl rfl ?_
      refine WQ.done ?_
      refine WA.take (fuel := 8) 1 rfl (by kernel_rfl) (by kernel_rfl) (by kernel_rfl) (by kernel_rfl) rfl rfl hC ?_
      refine Q.loadB (i := 0) rfl Try.underlying2 rfl rfl rfl rfl ?_
      refine WQ.done ?_
      refine WA.take (fuel := 7) 2 rfl (by kernel_rfl) (by kernel_rfl) (by kernel_rfl) (by kernel_rfl) rfl rfl hC ?_
      refine Q.moveT rfl ?_
      refine WQ.done ?_
      refine WA.take (fuel := 6) 3 rfl (by kernel_rfl) (by kernel_rfl) (by kernel_rfl) (by kernel_rfl) rfl rfl hC ?_
      refine Q.moveT rfl ?_
      refine WQ.done ?_
      refine WA.take (fuel := 5) 4 rfl (by kernel_rfl) (by kernel_rfl) (by kernel_rfl) (by kernel_rfl) rfl rfl hC ?_
      refine Q.indexRo h0 Try.underlying46 ti31 rfl rfl (by omega) rfl ?_
      intro ad30 u30 hu30 hl30 hc30
      refine WQ.done ?_
      refine WA.take (fuel := 4) 5 rfl (by kernel_rfl) (by kernel_rfl) (by kernel_rfl) (by kernel_rfl) rfl rfl hC ?_
      refine Q.fieldElt Try.underlying31 rfl ti2 rfl rfl rfl ?_
      refine WQ.done ?_
      refine WA.take (fuel := 3) 6 rfl (by kernel_rfl) (by kernel_rfl) (by kernel_rfl) (by kernel_rfl) rfl rfl hC ?_
      refine Q.loadRoF hc30 rfl Try.underlying2 rfl rfl rfl ?_
      refine WQ.done ?_
      refine WA.one (fuel := 2) 7 rfl (by kernel_rfl) rfl ?_
      refine S.min2 rfl rfl rfl ?_
      refine WS.done ⟨fun _ => hS6005, ?_⟩
      replace hC := hS6005
      refine WA.take (fuel := 1) 8 rfl (by kernel_rfl) (by kernel_rfl) (by kernel_rfl) (by kernel_rfl) rfl rfl hC ?_
      refine Q.fieldB Try.underlying31 rfl ti2 rfl rfl rfl rfl ?_
      refine WQ.done ?_
      refine WA.one (fuel := 0) 9 rfl (by kernel_rfl) rfl ?_
      refine S.storeB (i := 0) hS6005 rfl ti2 rfl rfl rfl rfl rfl rfl rfl rfl ?_
      intro w2006 hS2006; clear hS6005
      refine WS.done ⟨fun h => absurd h (by decide), ?_⟩
      refine WA.done (by kernel_rfl) ?_
      clear hC
      refine WR.region rfl ?_
      refine S.moveT rfl ?_
      first
        | refine S.addN rfl rfl rfl (by omega) ?_
        | refine S.add rfl rfl rfl ?_
      refine S.assignT rfl ?_
      refine WS.done ?_
      exact ⟨_, (by omega), ⟨i + 1, _, _, rfl, (by exact ⟨by omega, by rw [fold_succ (getZ hu21), hfd]; obtain rfl : u30 = u21 := Option.some.inj (hu30.symm.trans hu21); rfl⟩), rfl, ⟨rfl, rfl, rfl, trivial⟩, hS2006⟩⟩
    ·
      skip
      refine WR.exit ?_
      refine WR.seq ?_
      refine WR.seq ?_
      refine WR.region rfl ?_
      refine S.loadBA (i := 0) hS1001 rfl Try.underlying31 rfl ti31 rfl rfl rfl rfl ?_
      refine S.call ent28 rfl (r3_right hS1001 ) rfl ?_
      rintro _ w36 ⟨rfl, hS36⟩
      clear hS1001
      refine S.notD rfl rfl ?_
      refine WS.done ?_
      refine WR.condD rfl (fun c37 => ?_) (fun c37 => ?_)
      ·
        skip
        refine WR.seq ?_
        refine WR.region rfl ?_
        refine S.buildZero ti31 rfl (by kernel_rfl) rfl ?_
        refine S.storeB (i := 1) hS36 rfl ti31 rfl rfl rfl rfl rfl rfl rfl rfl ?_
        intro w2007 hS2007; clear hS36
        refine S.assignC rfl ?_
        refine WS.done ?_
        refine WR.ret (retC1 rfl rfl (run_loadBA (i := 1) hS2007 rfl Try.underlying31 rfl ti31 rfl rfl) rfl ?_)
        rw [List.take_of_length_le (by omega)] at hfd
        exact ⟨_, _, _, rfl, by unfold FoldP; rw [hfd]; exact Or.inr (Or.inl ⟨Decidable.not_not.1 c8, by omega, rfl, rfl, rfl⟩), hS2007.drop.drop⟩
      ·
        skip
        refine WR.skip ?_
        refine WR.seq ?_
        refine WR.region rfl ?_
        refine S.loadBA (i := 0) hS36 rfl Try.underlying31 rfl ti31 rfl rfl rfl rfl ?_
        refine S.storeB (i := 1) hS36 rfl ti31 rfl rfl rfl rfl rfl rfl rfl rfl ?_
        intro w2008 hS2008; clear hS36
        refine S.assignC rfl ?_
        refine WS.done ?_
        refine WR.ret (retC1 rfl rfl (run_loadBA (i := 1) hS2008 rfl Try.underlying31 rfl ti31 rfl rfl) rfl ?_)
        rw [List.take_of_length_le (by omega)] at hfd
        exact ⟨_, _, _, rfl, by unfold FoldP; rw [hfd]; exact Or.inr (Or.inr ⟨Decidable.not_not.1 c8, by omega, rfl, rfl, rfl⟩), hS2008.drop.drop⟩

set_option maxRecDepth 100000 in
set_option maxHeartbeats 4000000 in
theorem r3_hull {w : World} {R : Kn} {L : List HP} (hS : St w R (L)) {v0 : Value} {xs : List (Int × Int)} (hf : ∀ x ∈ xs, lim x) (h0 : Ro R gpE 2 v0 xs) (hm : xs.length ≤ 1000000) :
    Fn Try.prog 24 #[v0] w (fun v w' => ∃ p q e, v = .tuple #[.agg #[.int .i64 p, .int .i64 q], .int .i64 e] ∧ FoldP hullF (9223372036854775807, -9223372036854775808) xs p q e ∧ St w' R L) := by
  obtain ⟨a0, c0, rfl, hl0⟩ := h0.len
  refine Fn.intro (n := 42) Try.func24 rfl rfl rfl ?_
  refine WR.seq ?_
  refine WR.region rfl ?_
  refine S.alloc hS ti31 rfl rfl ?_
  intro b2 w2 hS2; clear hS
  refine S.assignC rfl ?_
  refine WS.done ?_
  refine WR.seq ?_
  refine WR.seq ?_
  refine WR.region rfl ?_
  refine S.moveT rfl ?_
  refine S.call ent38 rfl (r3_rights hS2 (by exact h0) (by exact hm)) rfl ?_
  rintro _ w7 ⟨rfl, hS7⟩
  clear hS2
  refine S.notD rfl rfl ?_
  refine WS.done ?_
  refine WR.condD rfl (fun c8 => ?_) (fun c8 => ?_)
  ·
    skip
    refine WR.seq ?_
    refine WR.region rfl ?_
    refine S.buildZero ti31 rfl (by kernel_rfl) rfl ?_
    refine S.storeB (i := 0) hS7 rfl ti31 rfl rfl rfl rfl rfl rfl rfl rfl ?_
    intro w2001 hS2001; clear hS7
    refine S.assignC rfl ?_
    refine WS.done ?_
    refine WR.ret (retC1 rfl rfl (run_loadBA (i := 0) hS2001 rfl Try.underlying31 rfl ti31 rfl rfl) rfl ?_)
    exact ⟨_, _, _, rfl, .inl ⟨c8, rfl, rfl, rfl⟩, hS2001.drop⟩
  ·
    skip
    refine WR.skip ?_
    refine WR.seq ?_
    refine WR.seq ?_
    refine WR.region rfl ?_
    refine S.moveT rfl ?_
    refine S.lenSl Try.underlying46 rfl rfl ?_
    refine S.eql rfl rfl rfl ?_
    refine WS.done ?_
    refine WR.condD rfl (fun c12 => ?_) (fun c12 => ?_)
    ·
      skip
      refine WR.seq ?_
      refine WR.region rfl ?_
      refine S.buildZero ti31 rfl (by kernel_rfl) rfl ?_
      refine S.storeB (i := 0) hS7 rfl ti31 rfl rfl rfl rfl rfl rfl rfl rfl ?_
      intro w2002 hS2002; clear hS7
      refine S.assignC rfl ?_
      refine WS.done ?_
      refine WR.ret (retC1 rfl rfl (run_loadBA (i := 0) hS2002 rfl Try.underlying31 rfl ti31 rfl rfl) rfl ?_)
      obtain rfl : xs = [] := List.eq_nil_of_length_eq_zero (by omega)
      exact ⟨_, _, _, rfl, Or.inr (Or.inl ⟨Decidable.not_not.1 c8, by decide, rfl, rfl, rfl⟩), hS2002.drop⟩
    ·
      skip
      refine WR.skip ?_
      refine WR.seq ?_
      refine WR.region rfl ?_
      refine S.moveT rfl ?_
      refine S.indexRo h0 Try.underlying46 ti31 rfl rfl (by omega) rfl ?_
      intro ad15 u15 hu15 hl15 hc15
      refine S.loadRoA hS7 hc15 hl15 Try.underlying31 rfl ti31 rfl rfl ?_
      refine S.alloc hS7 ti31 rfl rfl ?_
      intro b4 w4 hS4; clear hS7
      refine S.storeB (i := 0) hS4 rfl ti31 rfl rfl rfl rfl rfl rfl rfl rfl ?_
      intro w2003 hS2003; clear hS4
      refine WS.done ?_
      refine WR.seq ?_
      refine WR.seq ?_
      refine WR.region rfl ?_
      refine S.assignC rfl ?_
      refine WS.done ?_
      refine WR.block ?_
      refine WR.loopE (fun rq mm rr wr => ∃ (i : Nat) (c d : Int), mm = xs.length - i ∧ ((i ≤ xs.length ∧ 1 ≤ i) ∧ (xs.take i).foldl hullF (9223372036854775807, -9223372036854775808) = (c, d)) ∧ rr 5 = .int .i64 (i : Int) ∧ Agr [0, 2, 4] rr rq ∧ St wr R (blk b4 (.cells (#[.int .i64 c, .int .i64 d]) 31 (0, 0)) :: blk b2 (.cells (#[.int .i64 0, .int .i64 0]) 31 (0, 0)) :: L)) ⟨1, _, _, rfl, (by exact ⟨by omega, hull_first (getZ hu15) (hf _ (List.mem_of_getElem? hu15))⟩), rfl, ⟨rfl, rfl, rfl, trivial⟩, hS2003⟩ ?_
      rintro mm rr w1001 ⟨i, c, d, hm1001, ⟨⟨hi, hi1⟩, hfd⟩, hr1001_5, hA1001, hS1001⟩
      obtain ⟨rr, rfl⟩ := agrBack hA1001
      clear hA1001
      obtain ⟨rr, rfl⟩ := back1 (r := rr) hr1001_5
      clear hr1001_5
      refine WR.seq ?_
      refine WR.seq ?_
      refine WR.region rfl ?_
      refine S.moveT rfl ?_
      refine S.moveT rfl ?_
      refine S.lenSl Try.underlying46 rfl rfl ?_
      refine S.lss rfl rfl rfl ?_
      refine WS.done ?_
      refine WR.condD rfl (fun c20 => ?_) (fun c20 => ?_)
      ·
        skip
        refine WR.skip ?_
        refine WR.seq ?_
        refine WR.block ?_
        refine WR.seq ?_
        refine WR.regionW (fun j => Nat.beq j 9) 10 rfl mixed hS1001 ?_
        intro w6004 hS6004; clear hS1001; have hC := hS6004
        refine WA.take (fuel := 9) 0 rfl (by kernel_rfl) (by kernel_rfl) (by kernel_rfl) (by kernel_rfl) rfl rfl hC ?_
        refine Q.fieldB Try.underlying31 rfl ti2 rfl rfl rfl rfl ?_
        refine WQ.done ?_
        refine WA.take (fuel := 8) 1 rfl (by kernel_rfl) (by kernel_rfl) (by kernel_rfl) (by kernel_rfl) rfl rfl hC ?_
        refine Q.loadB (i := 0) rfl Try.underlying2 rfl rfl rfl rfl ?_
        refine WQ.done ?_
        refine WA.take (fuel := 7) 2 rfl (by kernel_rfl) (by kernel_rfl) (by kernel_rfl) (by kernel_rfl) rfl rfl hC ?_
        refine Q.moveT rfl ?_
        refine WQ.done ?_
        refine WA.take (fuel := 6) 3 rfl (by kernel_rfl) (by kernel_rfl) (by kernel_rfl) (by kernel_rfl) rfl rfl hC ?_
        refine Q.moveT rfl ?_
        refine WQ.done ?_
        refine WA.take (fuel := 5) 4 rfl (by kernel_rfl) (by kernel_rfl) (by kernel_rfl) (by kernel_rfl) rfl rfl hC ?_
        refine Q.indexRo h0 Try.underlying46 ti31 rfl rfl (by omega) rfl ?_
        intro ad27 u27 hu27 hl27 hc27
        refine WQ.done ?_
        refine WA.take (fuel := 4) 5 rfl (by kernel_rfl) (by kernel_rfl) (by kernel_rfl) (by kernel_rfl) rfl rfl hC ?_
        refine Q.fieldElt Try.underlying31 rfl ti2 rfl rfl rfl ?_
        refine WQ.done ?_
        refine WA.take (fuel := 3) 6 rfl (by kernel_rfl) (by kernel_rfl) (by kernel_rfl) (by kernel_rfl) rfl rfl hC ?_
        refine Q.loadRoF hc27 rfl Try.underlying2 rfl rfl rfl ?_
        refine WQ.done ?_
        refine WA.one (fuel := 2) 7 rfl (by kernel_rfl) rfl ?_
        refine S.min2 rfl rfl rfl ?_
        refine WS.done ⟨fun _ => hS6004, ?_⟩
        replace hC := hS6004
        refine WA.take (fuel := 1) 8 rfl (by kernel_rfl) (by kernel_rfl) (by kernel_rfl) (by kernel_rfl) rfl rfl hC ?_
        refine Q.fieldB Try.underlying31 rfl ti2 rfl rfl rfl rfl ?_
        refine WQ.done ?_
        refine WA.one (fuel := 0) 9 rfl (by kernel_rfl) rfl ?_
        refine S.storeB (i := 0) hS6004 rfl ti2 rfl rfl rfl rfl rfl rfl rfl rfl ?_
        intro w2005 hS2005; clear hS6004
        refine WS.done ⟨fun h => absurd h (by decide), ?_⟩
        refine WA.done (by kernel_rfl) ?_
        clear hC
        refine WR.regionW (fun j => Nat.beq j 9) 10 rfl mixed hS2005 ?_
        intro w6006 hS6006; clear hS2005; have hC := hS6006
        refine WA.take (fuel := 9) 0 rfl (by kernel_rfl) (by kernel_rfl) (by kernel_rfl) (by kernel_rfl) rfl rfl hC ?_
        refine Q.fieldB Try.underlying31 rfl ti2 rfl rfl rfl rfl ?_
        refine WQ.done ?_
        refine WA.take (fuel := 8) 1 rfl (by kernel_rfl) (by kernel_rfl) (by kernel_rfl) (by kernel_rfl) rfl rfl hC ?_
        refine Q.loadB (i := 0) rfl Try.underlying2 rfl rfl rfl rfl ?_
        refine WQ.done ?_
        refine WA.take (fuel := 7) 2 rfl (by kernel_rfl) (by kernel_rfl) (by kernel_rfl) (by kernel_rfl) rfl rfl hC ?_
        refine Q.moveT rfl ?_
        refine WQ.done ?_
        refine WA.take (fuel := 6) 3 rfl (by kernel_rfl) (by kernel_rfl) (by kernel_rfl) (by kernel_rfl) rfl rfl hC ?_
        refine Q.moveT rfl ?_
        refine WQ.done ?_
        refine WA.take (fuel := 5) 4 rfl (by kernel_rfl) (by kernel_rfl) (by kernel_rfl) (by kernel_rfl) rfl rfl hC ?_
        refine Q.indexRo h0 Try.underlying46 ti31 rfl rfl (by omega) rfl ?_
        intro ad36 u36 hu36 hl36 hc36
        refine WQ.done ?_
        refine WA.take (fuel := 4) 5 rfl (by kernel_rfl) (by kernel_rfl) (by kernel_rfl) (by kernel_rfl) rfl rfl hC ?_
        refine Q.fieldElt Try.underlying31 rfl ti2 rfl rfl rfl ?_
        refine WQ.done ?_
        refine WA.take (fuel := 3) 6 rfl (by kernel_rfl) (by kernel_rfl) (by kernel_rfl) (by kernel_rfl) rfl rfl hC ?_
        refine Q.loadRoF hc36 rfl Try.underlying2 rfl rfl rfl ?_
        refine WQ.done ?_
        refine WA.one (fuel := 2) 7 rfl (by kernel_rfl) rfl ?_
        refine S.max2 rfl rfl rfl ?_
        refine WS.done ⟨fun _ => hS6006, ?_⟩
        replace hC := hS6006
        refine WA.take (fuel := 1) 8 rfl (by kernel_rfl) (by kernel_rfl) (by kernel_rfl) (by kernel_rfl) rfl rfl hC ?_
        refine Q.fieldB Try.underlying31 rfl ti2 rfl rfl rfl rfl ?_
        refine WQ.done ?_
        refine WA.one (fuel := 0) 9 rfl (by kernel_rfl) rfl ?_
        refine S.storeB (i := 0) hS6006 rfl ti2 rfl rfl rfl rfl rfl rfl rfl rfl ?_
        intro w2007 hS2007; clear hS6006
        refine WS.done ⟨fun h => absurd h (by decide), ?_⟩
        refine WA.done (by kernel_rfl) ?_
        clear hC
        refine WR.region rfl ?_
        refine S.moveT rfl ?_
        first
          | refine S.addN rfl rfl rfl (by omega) ?_
          | refine S.add rfl rfl rfl ?_
        refine S.assignT rfl ?_
        refine WS.done ?_
        exact ⟨_, (by omega), ⟨i + 1, _, _, rfl, (by exact ⟨by omega, by rw [fold_succ (getZ hu27), hfd]; obtain rfl : u36 = u27 := Option.some.inj (hu36.symm.trans hu27); rfl⟩), rfl, ⟨rfl, rfl, rfl, trivial⟩, hS2007⟩⟩
      ·
        skip
        refine WR.exit ?_
        refine WR.seq ?_
        refine WR.region rfl ?_
        refine S.loadBA (i := 0) hS1001 rfl Try.underlying31 rfl ti31 rfl rfl rfl rfl ?_
        refine S.storeB (i := 1) hS1001 rfl ti31 rfl rfl rfl rfl rfl rfl rfl rfl ?_
        intro w2008 hS2008; clear hS1001
        refine S.assignC rfl ?_
        refine WS.done ?_
        refine WR.ret (retC1 rfl rfl (run_loadBA (i := 1) hS2008 rfl Try.underlying31 rfl ti31 rfl rfl) rfl ?_)
        have hr := hull_right (Decidable.not_not.1 c8) hf (by omega)
        rw [List.take_of_length_le (by omega)] at hfd
        rw [hfd] at hr
        exact ⟨_, _, _, rfl, by unfold FoldP; rw [hfd]; exact Or.inr (Or.inr ⟨Decidable.not_not.1 c8, hr, rfl, rfl, rfl⟩), hS2008.drop.drop⟩

set_option maxRecDepth 100000 in
set_option maxHeartbeats 4000000 in
theorem l3_all {w : World} {R : Kn} {L : List HP} (hS : St w R (L)) {v0 : Value} {xs : List (Int × Int)} (h0 : Ro R gpE 2 v0 xs) (hm : xs.length ≤ 1000000) :
    Fn Try.prog 23 #[v0] w (fun v w' => St w' R (Ow 31 gpE 2 v xs :: L)) := by
  obtain ⟨a0, c0, rfl, hl0⟩ := h0.len
  refine Fn.intro (n := 21) Try.func23 rfl rfl rfl ?_
  refine WR.seq ?_
  refine WR.region rfl ?_
  refine S.assignC rfl ?_
  refine WS.done ?_
  refine WR.seq ?_
  refine WR.region rfl ?_
  first
    | refine S.buildRow (vs := []) hS Try.underlying46 ti31 rfl rfl rfl rfl rfl rfl rfl ?_
    | refine S.buildRow hS Try.underlying46 ti31 rfl rfl rfl rfl rfl rfl rfl ?_
  intro b5 w5 hS5; clear hS
  have hSo := hS5.ownRow (enc := gpE) (n := 2) [] rfl (fun _ h => by cases h) (by simp)
  refine S.assignT rfl ?_
  refine WS.done ?_
  refine WR.seq ?_
  refine WR.seq ?_
  refine WR.region rfl ?_
  refine S.assignC rfl ?_
  refine WS.done ?_
  refine WR.block ?_
  refine WR.loopE (fun rq mm rr wr => ∃ (i : Nat) (vo : Value), mm = xs.length - i ∧ (i ≤ xs.length) ∧ rr 3 = vo ∧ rr 4 = .int .i64 (i : Int) ∧ Agr [0] rr rq ∧ St wr R (Ow 31 gpE 2 vo (xs.take i) :: L)) ⟨0, _, rfl, (by omega), rfl, rfl, ⟨rfl, trivial⟩, hSo⟩ ?_
  rintro mm rr w1001 ⟨i, vo, hm1001, hi, hr1001_3, hr1001_4, hA1001, hS1001⟩
  obtain ⟨rr, rfl⟩ := agrBack hA1001
  clear hA1001
  obtain ⟨rr, rfl⟩ := back2 (r := rr) hr1001_3 hr1001_4
  clear hr1001_3 hr1001_4
  refine WR.seq ?_
  refine WR.seq ?_
  refine WR.region rfl ?_
  refine S.moveT rfl ?_
  refine S.moveT rfl ?_
  refine S.lenSl Try.underlying43 rfl rfl ?_
  refine S.lss rfl rfl rfl ?_
  refine WS.done ?_
  refine WR.condD rfl (fun c9 => ?_) (fun c9 => ?_)
  ·
    skip
    refine WR.skip ?_
    refine WR.seq ?_
    refine WR.block ?_
    refine WR.region rfl ?_
    refine S.moveT rfl ?_
    refine S.moveT rfl ?_
    refine S.moveT rfl ?_
    refine S.indexRo h0 Try.underlying43 ti23 rfl rfl (by omega) rfl ?_
    intro ad15 u15 hu15 hl15 hc15
    refine S.loadRoA hS1001 hc15 hl15 Try.underlying23 rfl ti23 rfl rfl ?_
    refine S.call ent12 rfl (l3_of hS1001 ) rfl ?_
    rintro _ w17 ⟨rfl, hS17⟩
    clear hS1001
    first
      | refine S.buildRow (vs := [.agg _]) hS17 Try.underlying46 ti31 rfl rfl rfl rfl rfl rfl rfl ?_
      | refine S.buildRow hS17 Try.underlying46 ti31 rfl rfl rfl rfl rfl rfl rfl ?_
    intro b18 w18 hS18; clear hS17
    refine S.appendTmp (i := 0) [u15] hS18 rfl rfl (fun _ _ => rfl) Try.underlying46 ti31 rfl rfl rfl rfl gpE_one (by simp; omega) rfl ?_
    intro v19 w19 hS19; clear hS18
    refine S.assignT rfl ?_
    refine WS.done ?_
    refine WR.region rfl ?_
    refine S.moveT rfl ?_
    first
      | refine S.addN rfl rfl rfl (by omega) ?_
      | refine S.add rfl rfl rfl ?_
    refine S.assignT rfl ?_
    refine WS.done ?_
    exact ⟨_, (by omega), ⟨i + 1, v19, rfl, (by omega), rfl, rfl, ⟨rfl, trivial⟩, (by rw [List.take_add_one, getZ hu15]; exact hS19)⟩⟩
  ·
    skip
    refine WR.exit ?_
    refine WR.seq ?_
    refine WR.region rfl ?_
    refine S.moveT rfl ?_
    refine S.assignT rfl ?_
    refine WS.done ?_
    refine WR.ret (ret1 rfl rfl ?_)
    rw [List.take_of_length_le (by omega)] at hS1001
    exact hS1001


end Go.Proofs.Ytogciedegglogaa.B

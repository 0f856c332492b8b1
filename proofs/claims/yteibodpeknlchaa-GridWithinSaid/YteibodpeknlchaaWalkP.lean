import Derived.Test.YteibodpeknlchaaWalkS
import Derived.Test.YteibodpeknlchaaWalkN
namespace Go.Proofs.Yteibodpeknlchaa.B
open Go.Proofs Go.RowKit
set_option linter.unusedVariables false
set_option linter.unusedSimpArgs false
set_option maxRecDepth 100000 in
set_option maxHeartbeats 4000000 in
theorem g_new {w : World} {R : Kn} {L : List HP}  (hS : St w R (L)) {a b : Int} :
    Fn Try.prog 58 #[.int .i64 a, .int .i64 b] w (fun v w' => ∃ p q, v = .tuple #[.agg #[.int .i64 p, .int .i64 q], .bool (decide (a ≤ b))] ∧ ((b < a ∧ p = 0 ∧ q = 0) ∨ (a ≤ b ∧ p = a ∧ q = b)) ∧ St w' R L) := by
  refine Fn.intro (n := 13) Try.func58 rfl rfl rfl ?_
  refine WR.seq ?_
  refine WR.region rfl ?_
  refine S.alloc hS ti25 rfl rfl ?_
  intro b4 w4 hS4; clear hS
  refine S.assignC rfl ?_
  refine WS.done ?_
  refine WR.seq ?_
  refine WR.seq ?_
  refine WR.region rfl ?_
  refine S.moveT rfl ?_
  refine S.moveT rfl ?_
  refine S.gtr rfl rfl rfl ?_
  refine WS.done ?_
  refine WR.condD rfl (fun c8 => ?_) (fun c8 => ?_)
  ·
    skip
    refine WR.seq ?_
    refine WR.region rfl ?_
    refine S.buildZero ti25 rfl (by kernel_rfl) rfl ?_
    refine S.storeB (i := 0) hS4 rfl ti25 rfl rfl rfl rfl rfl rfl rfl rfl ?_
    intro w2001 hS2001; clear hS4
    refine S.assignC rfl ?_
    refine WS.done ?_
    refine WR.ret (retC1 rfl rfl (run_loadBA (i := 0) hS2001 rfl Try.underlying25 rfl ti25 rfl rfl) rfl ?_)
    exact ⟨0, 0, tup2 rfl (congrArg Value.bool (decide_eq_false (by omega)).symm), by omega, hS2001.drop⟩
  ·
    skip
    refine WR.skip ?_
    refine WR.seq ?_
    refine WR.region rfl ?_
    refine S.moveT rfl ?_
    refine S.moveT rfl ?_
    refine S.buildStruct [.int _ _, .int _ _] [(0, 1), (1, 1)] Try.underlying25 ti25 rfl (by kernel_rfl) rfl rfl rfl rfl rfl rfl ?_
    refine S.storeB (i := 0) hS4 rfl ti25 rfl rfl rfl rfl rfl rfl rfl rfl ?_
    intro w2002 hS2002; clear hS4
    refine S.assignC rfl ?_
    refine WS.done ?_
    refine WR.ret (retC1 rfl rfl (run_loadBA (i := 0) hS2002 rfl Try.underlying25 rfl ti25 rfl rfl) rfl ?_)
    exact ⟨_, _, tup2 rfl (congrArg Value.bool (decide_eq_true (by omega)).symm), by omega, hS2002.drop⟩

set_option maxRecDepth 100000 in
set_option maxHeartbeats 4000000 in
theorem g_right {w : World} {R : Kn} {L : List HP}  (hS : St w R (L)) {a b : Int} :
    Fn Try.prog 37 #[.agg #[.int .i64 a, .int .i64 b]] w (fun v w' => v = .bool (decide (a ≤ b)) ∧ St w' R L) := by
  refine Fn.intro (n := 8) Try.func37 rfl rfl rfl ?_
  refine WR.seq ?_
  refine WR.region rfl ?_
  refine S.box hS rfl rfl rfl ?_
  intro b1 w1 hS1; clear hS
  refine S.assignC rfl ?_
  refine WS.done ?_
  refine WR.seq ?_
  refine WR.region rfl ?_
  refine S.fieldB Try.underlying25 rfl ti2 rfl rfl rfl rfl ?_
  refine S.loadB (i := 0) hS1 rfl Try.underlying2 rfl rfl rfl rfl ?_
  refine S.fieldB Try.underlying25 rfl ti2 rfl rfl rfl rfl ?_
  refine S.loadB (i := 0) hS1 rfl Try.underlying2 rfl rfl rfl rfl ?_
  refine S.leq rfl rfl rfl ?_
  refine S.assignT rfl ?_
  refine WS.done ?_
  refine WR.ret (ret1 rfl rfl ?_)
  exact ⟨rfl, hS1.drop⟩

set_option maxRecDepth 100000 in
set_option maxHeartbeats 4000000 in
theorem r3_right {w : World} {R : Kn} {L : List HP}  (hS : St w R (L)) {a b : Int} :
    Fn Try.prog 19 #[.agg #[.int .i64 a, .int .i64 b]] w (fun v w' => v = .bool (decide (a ≤ b)) ∧ St w' R L) := by
  refine Fn.intro (n := 8) Try.func19 rfl rfl rfl ?_
  refine WR.seq ?_
  refine WR.region rfl ?_
  refine S.box hS rfl rfl rfl ?_
  intro b1 w1 hS1; clear hS
  refine S.assignC rfl ?_
  refine WS.done ?_
  refine WR.seq ?_
  refine WR.region rfl ?_
  refine S.fieldB Try.underlying33 rfl ti2 rfl rfl rfl rfl ?_
  refine S.loadB (i := 0) hS1 rfl Try.underlying2 rfl rfl rfl rfl ?_
  refine S.fieldB Try.underlying33 rfl ti2 rfl rfl rfl rfl ?_
  refine S.loadB (i := 0) hS1 rfl Try.underlying2 rfl rfl rfl rfl ?_
  refine S.leq rfl rfl rfl ?_
  refine S.assignT rfl ?_
  refine WS.done ?_
  refine WR.ret (ret1 rfl rfl ?_)
  exact ⟨rfl, hS1.drop⟩

set_option maxRecDepth 100000 in
set_option maxHeartbeats 4000000 in
theorem g_has {w : World} {R : Kn} {L : List HP}  (hS : St w R (L)) {a b x : Int} :
    Fn Try.prog 21 #[.agg #[.int .i64 a, .int .i64 b], .int .i64 x] w (fun v w' => v = .bool (decide (a ≤ x ∧ x ≤ b)) ∧ St w' R L) := by
  refine Fn.intro (n := 15) Try.func21 rfl rfl rfl ?_
  refine WR.seq ?_
  refine WR.region rfl ?_
  refine S.box hS rfl rfl rfl ?_
  intro b2 w2 hS2; clear hS
  refine S.assignC rfl ?_
  refine WS.done ?_
  refine WR.seq ?_
  refine WR.region rfl ?_
  refine S.fieldB Try.underlying25 rfl ti2 rfl rfl rfl rfl ?_
  refine S.loadB (i := 0) hS2 rfl Try.underlying2 rfl rfl rfl rfl ?_
  refine S.moveT rfl ?_
  refine S.leq rfl rfl rfl ?_
  refine S.moveT rfl ?_
  refine S.splitD (d := 9) rfl (fun c9 => ?_) (fun c9 => ?_)
  ·
    skip
    refine S.moveT rfl ?_
    refine S.fieldB Try.underlying25 rfl ti2 rfl rfl rfl rfl ?_
    refine S.loadB (i := 0) hS2 rfl Try.underlying2 rfl rfl rfl rfl ?_
    refine S.leq rfl rfl rfl ?_
    refine S.pickT rfl rfl ?_
    refine S.assignT rfl ?_
    refine WS.done ?_
    refine WR.ret (ret1 rfl rfl ?_)
    exact ⟨congrArg Value.bool (by first | exact decide_eq_decide.2 (by omega) | exact (decide_eq_false (by omega)).symm | exact (decide_eq_true (by omega)).symm), hS2.drop⟩
  ·
    skip
    refine S.off rfl ?_
    refine S.off rfl ?_
    refine S.off rfl ?_
    refine S.off rfl ?_
    refine S.pickFC rfl rfl ?_
    refine S.assignT rfl ?_
    refine WS.done ?_
    refine WR.ret (ret1 rfl rfl ?_)
    exact ⟨congrArg Value.bool (by first | exact decide_eq_decide.2 (by omega) | exact (decide_eq_false (by omega)).symm | exact (decide_eq_true (by omega)).symm), hS2.drop⟩

set_option maxRecDepth 100000 in
set_option maxHeartbeats 4000000 in
theorem g_width {w : World} {R : Kn} {L : List HP}  (hS : St w R (L)) {a b : Int} (ha : fits a) (hb : fits b) :
    Fn Try.prog 20 #[.agg #[.int .i64 a, .int .i64 b]] w (fun v w' => v = .int .u64 (wd a b) ∧ St w' R L) := by
  obtain ⟨ha1, ha2⟩ := ha
  obtain ⟨hb1, hb2⟩ := hb
  refine Fn.intro (n := 13) Try.func20 rfl rfl rfl ?_
  refine WR.seq ?_
  refine WR.region rfl ?_
  refine S.box hS rfl rfl rfl ?_
  intro b1 w1 hS1; clear hS
  refine S.assignC rfl ?_
  refine WS.done ?_
  refine WR.seq ?_
  refine WR.seq ?_
  refine WR.region rfl ?_
  refine S.loadBA (i := 0) hS1 rfl Try.underlying25 rfl ti25 rfl rfl rfl rfl ?_
  refine S.call ent37 rfl (g_right hS1 ) rfl ?_
  rintro _ w4 ⟨rfl, hS4⟩
  clear hS1
  refine S.notD rfl rfl ?_
  refine WS.done ?_
  refine WR.condD rfl (fun c5 => ?_) (fun c5 => ?_)
  ·
    skip
    refine WR.seq ?_
    refine WR.region rfl ?_
    refine S.assignC rfl ?_
    refine WS.done ?_
    refine WR.ret (ret1 rfl rfl ?_)
    exact ⟨congrArg (Value.int .u64) (by have := wd_cases a b; omega), hS4.drop⟩
  ·
    skip
    refine WR.skip ?_
    refine WR.seq ?_
    refine WR.region rfl ?_
    refine S.fieldB Try.underlying25 rfl ti2 rfl rfl rfl rfl ?_
    refine S.loadB (i := 0) hS4 rfl Try.underlying2 rfl rfl rfl rfl ?_
    first
      | refine S.convN Try.underlying2 Try.underlying47 rfl rfl (wrap_u64 (by omega) (by omega)) ?_
      | refine S.conv Try.underlying2 Try.underlying47 rfl rfl ?_
    refine S.fieldB Try.underlying25 rfl ti2 rfl rfl rfl rfl ?_
    refine S.loadB (i := 0) hS4 rfl Try.underlying2 rfl rfl rfl rfl ?_
    first
      | refine S.convN Try.underlying2 Try.underlying47 rfl rfl (wrap_u64 (by omega) (by omega)) ?_
      | refine S.conv Try.underlying2 Try.underlying47 rfl rfl ?_
    first
      | refine S.subU rfl rfl rfl (by omega) ?_
      | refine S.sub rfl rfl rfl ?_
    refine S.assignT rfl ?_
    refine WS.done ?_
    refine WR.ret (ret1 rfl rfl ?_)
    exact ⟨congrArg (Value.int .u64) (wd_wrap (by omega) ha1 hb2), hS4.drop⟩

set_option maxRecDepth 100000 in
set_option maxHeartbeats 4000000 in
theorem g_mid {w : World} {R : Kn} {L : List HP}  (hS : St w R (L)) {a b : Int} (ha : fits a) (hb : fits b) :
    Fn Try.prog 30 #[.agg #[.int .i64 a, .int .i64 b]] w (fun v w' => v = .int .i64 (md a b) ∧ St w' R L) := by
  have hw := wd_cases a b
  have hd := md_cases a b
  have ha' := ha
  have hb' := hb
  obtain ⟨ha1, ha2⟩ := ha
  obtain ⟨hb1, hb2⟩ := hb
  refine Fn.intro (n := 13) Try.func30 rfl rfl rfl ?_
  refine WR.seq ?_
  refine WR.region rfl ?_
  refine S.box hS rfl rfl rfl ?_
  intro b1 w1 hS1; clear hS
  refine S.assignC rfl ?_
  refine WS.done ?_
  refine WR.seq ?_
  refine WR.seq ?_
  refine WR.region rfl ?_
  refine S.loadBA (i := 0) hS1 rfl Try.underlying25 rfl ti25 rfl rfl rfl rfl ?_
  refine S.call ent37 rfl (g_right hS1 ) rfl ?_
  rintro _ w4 ⟨rfl, hS4⟩
  clear hS1
  refine S.notD rfl rfl ?_
  refine WS.done ?_
  refine WR.condD rfl (fun c5 => ?_) (fun c5 => ?_)
  ·
    skip
    refine WR.seq ?_
    refine WR.region rfl ?_
    refine S.assignC rfl ?_
    refine WS.done ?_
    refine WR.ret (ret1 rfl rfl ?_)
    exact ⟨congrArg (Value.int .i64) (by omega), hS4.drop⟩
  ·
    skip
    refine WR.skip ?_
    refine WR.seq ?_
    refine WR.regionQ mixed hS4 (by kernel_rfl) rfl ?_
    refine Q.fieldB Try.underlying25 rfl ti2 rfl rfl rfl rfl ?_
    refine Q.loadB (i := 0) rfl Try.underlying2 rfl rfl rfl rfl ?_
    refine Q.loadBA (i := 0) rfl Try.underlying25 rfl ti25 rfl rfl rfl rfl ?_
    refine Q.call ent20 rfl (fun w hQ => g_width hQ (by exact ha') (by exact hb')) rfl ?_
    refine Q.shrC (q := 2) rfl rfl rfl (by decide) rfl rfl ?_
    first
      | refine Q.convN Try.underlying47 Try.underlying2 rfl rfl (wrap_i64 (by omega) (by omega)) ?_
      | refine Q.conv Try.underlying47 Try.underlying2 rfl rfl ?_
    first
      | refine Q.addN rfl rfl rfl (by omega) ?_
      | refine Q.add rfl rfl rfl ?_
    refine Q.assignT rfl ?_
    refine WQ.done ?_
    intro w5001 hS5001
    clear hS4
    refine WR.ret (ret1 rfl rfl ?_)
    exact ⟨congrArg (Value.int .i64) (by omega), hS5001.drop⟩

set_option maxRecDepth 100000 in
set_option maxHeartbeats 4000000 in
theorem g_ends {w : World} {R : Kn} {L : List HP}  (hS : St w R (L)) {a e b f : Int} :
    Fn Try.prog 53 #[.int .i64 a, .int .i64 e, .int .i64 b, .int .i64 f] w (fun v w' => ∃ p q g, v = .tuple #[.agg #[.int .i64 p, .int .i64 q], .int .i64 g] ∧ (((e ≠ 0 ∨ f ≠ 0) ∧ p = 0 ∧ q = 0 ∧ g = 12) ∨ (e = 0 ∧ f = 0 ∧ b < a ∧ p = 0 ∧ q = 0 ∧ g = 13) ∨ (e = 0 ∧ f = 0 ∧ a ≤ b ∧ p = a ∧ q = b ∧ g = 0)) ∧ St w' R L) := by
  refine Fn.intro (n := 29) Try.func53 rfl rfl rfl ?_
  refine WR.seq ?_
  refine WR.region rfl ?_
  refine S.alloc hS ti25 rfl rfl ?_
  intro b8 w8 hS8; clear hS
  refine S.assignC rfl ?_
  refine WS.done ?_
  refine WR.seq ?_
  refine WR.seq ?_
  refine WR.region rfl ?_
  refine S.moveT rfl ?_
  refine S.neq rfl rfl rfl ?_
  refine S.moveT rfl ?_
  refine S.splitD (d := 14) rfl (fun c14 => ?_) (fun c14 => ?_)
  ·
    skip
    refine S.off rfl ?_
    refine S.off rfl ?_
    refine S.pickTC rfl rfl ?_
    refine WS.done ?_
    refine WR.condT rfl ?_
    refine WR.seq ?_
    refine WR.region rfl ?_
    refine S.buildZero ti25 rfl (by kernel_rfl) rfl ?_
    refine S.storeB (i := 0) hS8 rfl ti25 rfl rfl rfl rfl rfl rfl rfl rfl ?_
    intro w2001 hS2001; clear hS8
    refine S.assignC rfl ?_
    refine WS.done ?_
    refine WR.ret (retC1 rfl rfl (run_loadBA (i := 0) hS2001 rfl Try.underlying25 rfl ti25 rfl rfl) rfl ?_)
    first | exact ⟨_, _, _, rfl, by omega, hS2001.drop⟩ | exact ⟨_, _, _, rfl, by omega, hS2001.drop.drop⟩
  ·
    skip
    refine S.moveT rfl ?_
    refine S.neq rfl rfl rfl ?_
    refine S.pickF rfl rfl ?_
    refine WS.done ?_
    refine WR.condD rfl (fun c17 => ?_) (fun c17 => ?_)
    ·
      skip
      refine WR.seq ?_
      refine WR.region rfl ?_
      refine S.buildZero ti25 rfl (by kernel_rfl) rfl ?_
      refine S.storeB (i := 0) hS8 rfl ti25 rfl rfl rfl rfl rfl rfl rfl rfl ?_
      intro w2002 hS2002; clear hS8
      refine S.assignC rfl ?_
      refine WS.done ?_
      refine WR.ret (retC1 rfl rfl (run_loadBA (i := 0) hS2002 rfl Try.underlying25 rfl ti25 rfl rfl) rfl ?_)
      first | exact ⟨_, _, _, rfl, by omega, hS2002.drop⟩ | exact ⟨_, _, _, rfl, by omega, hS2002.drop.drop⟩
    ·
      skip
      refine WR.skip ?_
      refine WR.seq ?_
      refine WR.region rfl ?_
      refine S.moveT rfl ?_
      refine S.moveT rfl ?_
      refine S.call ent58 rfl (g_new hS8 ) rfl ?_
      rintro _ w22 ⟨p22, q22, rfl, hG22, hS22⟩
      clear hS8
      refine S.moveT rfl ?_
      refine S.extract rfl rfl rfl ?_
      refine S.extract rfl rfl rfl ?_
      refine S.alloc hS22 ti25 rfl rfl ?_
      intro b10 w10 hS10; clear hS22
      refine S.storeB (i := 0) hS10 rfl ti25 rfl rfl rfl rfl rfl rfl rfl rfl ?_
      intro w2003 hS2003; clear hS10
      refine S.assignT rfl ?_
      refine WS.done ?_
      refine WR.seq ?_
      refine WR.seq ?_
      refine WR.region rfl ?_
      refine S.moveT rfl ?_
      refine S.notD rfl rfl ?_
      refine WS.done ?_
      refine WR.condD rfl (fun c26 => ?_) (fun c26 => ?_)
      ·
        skip
        refine WR.seq ?_
        refine WR.region rfl ?_
        refine S.buildZero ti25 rfl (by kernel_rfl) rfl ?_
        refine S.storeB (i := 1) hS2003 rfl ti25 rfl rfl rfl rfl rfl rfl rfl rfl ?_
        intro w2004 hS2004; clear hS2003
        refine S.assignC rfl ?_
        refine WS.done ?_
        refine WR.ret (retC1 rfl rfl (run_loadBA (i := 1) hS2004 rfl Try.underlying25 rfl ti25 rfl rfl) rfl ?_)
        first | exact ⟨_, _, _, rfl, by omega, hS2004.drop⟩ | exact ⟨_, _, _, rfl, by omega, hS2004.drop.drop⟩
      ·
        skip
        refine WR.skip ?_
        refine WR.seq ?_
        refine WR.region rfl ?_
        refine S.loadBA (i := 0) hS2003 rfl Try.underlying25 rfl ti25 rfl rfl rfl rfl ?_
        refine S.storeB (i := 1) hS2003 rfl ti25 rfl rfl rfl rfl rfl rfl rfl rfl ?_
        intro w2005 hS2005; clear hS2003
        refine S.assignC rfl ?_
        refine WS.done ?_
        refine WR.ret (retC1 rfl rfl (run_loadBA (i := 1) hS2005 rfl Try.underlying25 rfl ti25 rfl rfl) rfl ?_)
        first | exact ⟨_, _, _, rfl, by omega, hS2005.drop⟩ | exact ⟨_, _, _, rfl, by omega, hS2005.drop.drop⟩

set_option maxRecDepth 100000 in
set_option maxHeartbeats 4000000 in
theorem r3_mid {w : World} {R : Kn} {L : List HP}  (hS : St w R (L)) {a b : Int} (ha : fits a) (hb : fits b) :
    Fn Try.prog 33 #[.agg #[.int .i64 a, .int .i64 b]] w (fun v w' => v = .int .i64 (md a b) ∧ St w' R L) := by
  have hd := md_cases a b
  have hfa := fits_big ha
  have hfb := fits_big hb
  refine Fn.intro (n := 24) Try.func33 rfl rfl rfl ?_
  refine WR.seq ?_
  refine WR.region rfl ?_
  refine S.box hS rfl rfl rfl ?_
  intro b1 w1 hS1; clear hS
  refine S.assignC rfl ?_
  refine WS.done ?_
  refine WR.seq ?_
  refine WR.seq ?_
  refine WR.region rfl ?_
  refine S.loadBA (i := 0) hS1 rfl Try.underlying33 rfl ti33 rfl rfl rfl rfl ?_
  refine S.call ent19 rfl (r3_right hS1 ) rfl ?_
  rintro _ w7 ⟨rfl, hS7⟩
  clear hS1
  refine S.notD rfl rfl ?_
  refine WS.done ?_
  refine WR.condD rfl (fun c8 => ?_) (fun c8 => ?_)
  ·
    skip
    refine WR.seq ?_
    refine WR.region rfl ?_
    refine S.assignC rfl ?_
    refine WS.done ?_
    refine WR.ret (ret1 rfl rfl ?_)
    exact ⟨congrArg (Value.int .i64) (by omega), hS7.drop⟩
  ·
    skip
    refine WR.skip ?_
    refine WR.seq ?_
    refine WR.region rfl ?_
    refine S.call ent27 rfl (r_of hS7 (by decide)) rfl ?_
    rintro v9 w9 ⟨R9, hR9, hN9, hS9⟩
    clear hS7
    have hM9 := hN9
    obtain ⟨ng9, s9, ds9, rfl, hro9, hd9, hcn9, hnz9, hz9⟩ := hN9
    obtain ⟨aa9, cc9, rfl, hll9⟩ := hro9.len
    refine S.alloc hS9 ti57 rfl rfl ?_
    intro b3 w3 hS3; clear hS9
    refine S.storeB (i := 0) hS3 rfl ti57 rfl rfl rfl rfl rfl rfl rfl rfl ?_
    intro w2001 hS2001; clear hS3
    refine WS.done ?_
    refine WR.seq ?_
    refine WR.regionW (fun j => false) 15 rfl mixed hS2001 ?_
    intro w6002 hS6002; clear hS2001; have hC := hS6002
    refine WA.take (fuel := 14) 0 rfl (by kernel_rfl) (by kernel_rfl) (by kernel_rfl) (by kernel_rfl) rfl rfl hC ?_
    refine Q.fieldB Try.underlying33 rfl ti2 rfl rfl rfl rfl ?_
    refine WQ.done ?_
    refine WA.take (fuel := 13) 1 rfl (by kernel_rfl) (by kernel_rfl) (by kernel_rfl) (by kernel_rfl) rfl rfl hC ?_
    refine Q.loadB (i := 1) rfl Try.underlying2 rfl rfl rfl rfl ?_
    refine WQ.done ?_
    refine WA.take (fuel := 12) 3 rfl (by kernel_rfl) (by kernel_rfl) (by kernel_rfl) (by kernel_rfl) rfl rfl hC ?_
    refine Q.fieldB Try.underlying33 rfl ti2 rfl rfl rfl rfl ?_
    refine WQ.done ?_
    refine WA.take (fuel := 11) 4 rfl (by kernel_rfl) (by kernel_rfl) (by kernel_rfl) (by kernel_rfl) rfl rfl hC ?_
    refine Q.loadB (i := 1) rfl Try.underlying2 rfl rfl rfl rfl ?_
    refine WQ.done ?_
    refine WA.take (fuel := 10) 7 rfl (by kernel_rfl) (by kernel_rfl) (by kernel_rfl) (by kernel_rfl) rfl rfl hC ?_
    refine Q.loadBA (i := 0) rfl Try.underlying57 rfl ti57 rfl rfl rfl rfl ?_
    refine WQ.done ?_
    refine WA.one (fuel := 9) 2 rfl (by kernel_rfl) rfl ?_
    refine S.call ent27 rfl (r_of hS6002 (by exact ha)) rfl ?_
    rintro v13 w13 ⟨R13, hR13, hN13, hS13⟩
    clear hS6002
    have hM13 := hN13
    obtain ⟨ng13, s13, ds13, rfl, hro13, hd13, hcn13, hnz13, hz13⟩ := hN13
    obtain ⟨aa13, cc13, rfl, hll13⟩ := hro13.len
    replace hro9 := hro9.mono hR13
    refine WS.done ⟨fun _ => (hS13.weak hR13), ?_⟩
    replace hC := (hS13.weak hR13)
    refine WA.one (fuel := 8) 5 rfl (by kernel_rfl) rfl ?_
    refine S.call ent27 rfl (r_of hS13 (by exact hb)) rfl ?_
    rintro v16 w16 ⟨R16, hR16, hN16, hS16⟩
    clear hS13
    have hM16 := hN16
    obtain ⟨ng16, s16, ds16, rfl, hro16, hd16, hcn16, hnz16, hz16⟩ := hN16
    obtain ⟨aa16, cc16, rfl, hll16⟩ := hro16.len
    replace hro9 := hro9.mono hR16
    replace hro13 := hro13.mono hR16
    refine WS.done ⟨fun _ => ((hS16.weak hR16).weak hR13), ?_⟩
    replace hC := ((hS16.weak hR16).weak hR13)
    refine WA.one (fuel := 7) 6 rfl (by kernel_rfl) rfl ?_
    refine S.call ent28 rfl (r_add hS16 (by exact hM13.mono hR16) (by exact hM16) (by exact hfa) (by exact hfb)) rfl ?_
    rintro v17 w17 ⟨R17, hR17, hN17, hS17⟩
    clear hS16
    have hM17 := hN17
    obtain ⟨ng17, s17, ds17, rfl, hro17, hd17, hcn17, hnz17, hz17⟩ := hN17
    obtain ⟨aa17, cc17, rfl, hll17⟩ := hro17.len
    replace hro9 := hro9.mono hR17
    replace hro13 := hro13.mono hR17
    replace hro16 := hro16.mono hR17
    refine WS.done ⟨fun _ => (((hS17.weak hR17).weak hR16).weak hR13), ?_⟩
    replace hC := (((hS17.weak hR17).weak hR16).weak hR13)
    refine WA.one (fuel := 6) 8 rfl (by kernel_rfl) rfl ?_
    refine S.call ent49 rfl (r_div hS17 (by exact hM17) (by exact hM9.mono (hR13.trans (hR16.trans hR17))) (by exact lt_big (by unfold fits at ha hb; omega)) (by exact lt_big (by decide)) (by decide)) rfl ?_
    rintro v19 w19 ⟨R19, hR19, hN19, hS19⟩
    clear hS17
    have hM19 := hN19
    obtain ⟨ng19, s19, ds19, rfl, hro19, hd19, hcn19, hnz19, hz19⟩ := hN19
    obtain ⟨aa19, cc19, rfl, hll19⟩ := hro19.len
    replace hro9 := hro9.mono hR19
    replace hro13 := hro13.mono hR19
    replace hro16 := hro16.mono hR19
    replace hro17 := hro17.mono hR19
    refine WS.done ⟨fun _ => ((((hS19.weak hR19).weak hR17).weak hR16).weak hR13), ?_⟩
    replace hC := ((((hS19.weak hR19).weak hR17).weak hR16).weak hR13)
    refine WA.one (fuel := 5) 9 rfl (by kernel_rfl) rfl ?_
    refine S.call ent29 rfl (r_long hS19 (by exact hM19)) rfl ?_
    rintro _ w20 ⟨x20, rfl, hf20, hS20⟩
    clear hS19
    refine WS.done ⟨fun _ => ((((hS20.weak hR19).weak hR17).weak hR16).weak hR13), ?_⟩
    replace hC := ((((hS20.weak hR19).weak hR17).weak hR16).weak hR13)
    refine WA.take (fuel := 4) 10 rfl (by kernel_rfl) (by kernel_rfl) (by kernel_rfl) (by kernel_rfl) rfl rfl hC ?_
    refine Q.moveT rfl ?_
    refine WQ.done ?_
    refine WA.take (fuel := 3) 11 rfl (by kernel_rfl) (by kernel_rfl) (by kernel_rfl) (by kernel_rfl) rfl rfl hC ?_
    refine Q.extract rfl rfl rfl ?_
    refine WQ.done ?_
    refine WA.take (fuel := 2) 12 rfl (by kernel_rfl) (by kernel_rfl) (by kernel_rfl) (by kernel_rfl) rfl rfl hC ?_
    refine Q.extract rfl rfl rfl ?_
    refine WQ.done ?_
    refine WA.take (fuel := 1) 13 rfl (by kernel_rfl) (by kernel_rfl) (by kernel_rfl) (by kernel_rfl) rfl rfl hC ?_
    refine Q.assignT rfl ?_
    refine WQ.done ?_
    refine WA.take (fuel := 0) 14 rfl (by kernel_rfl) (by kernel_rfl) (by kernel_rfl) (by kernel_rfl) rfl rfl hC ?_
    refine Q.assignT rfl ?_
    refine WQ.done ?_
    refine WA.done (by kernel_rfl) ?_
    clear hC
    refine WR.seq ?_
    refine WR.region rfl ?_
    refine S.moveT rfl ?_
    refine S.assignT rfl ?_
    refine WS.done ?_
    refine WR.ret (ret1 rfl rfl ?_)
    exact ⟨congrArg (Value.int .i64) ((hf20 (mid_fits ha hb)).trans (mid_quot (by omega))), (hS20.drop.drop).weak (hR9.trans (hR13.trans (hR16.trans (hR17.trans hR19))))⟩

set_option maxRecDepth 100000 in
set_option maxHeartbeats 4000000 in
theorem g_meet1 {w : World} {R : Kn} {L : List HP}  (hS : St w R (L)) {a b c d : Int} :
    Fn Try.prog 39 #[.agg #[.int .i64 a, .int .i64 b], .agg #[.int .i64 c, .int .i64 d]] w (fun v w' => v = .agg #[.int .i64 (meetF (a, b) (c, d)).1, .int .i64 (meetF (a, b) (c, d)).2] ∧ St w' R L) := by
  refine Fn.intro (n := 16) Try.func39 rfl rfl rfl ?_
  refine WR.seq ?_
  refine WR.region rfl ?_
  refine S.box hS rfl rfl rfl ?_
  intro b2 w2 hS2; clear hS
  refine S.box hS2 rfl rfl rfl ?_
  intro b3 w3 hS3; clear hS2
  refine S.alloc hS3 ti25 rfl rfl ?_
  intro b4 w4 hS4; clear hS3
  refine WS.done ?_
  refine WR.seq ?_
  refine WR.region rfl ?_
  refine S.fieldB Try.underlying25 rfl ti2 rfl rfl rfl rfl ?_
  refine S.loadB (i := 2) hS4 rfl Try.underlying2 rfl rfl rfl rfl ?_
  refine S.fieldB Try.underlying25 rfl ti2 rfl rfl rfl rfl ?_
  refine S.loadB (i := 1) hS4 rfl Try.underlying2 rfl rfl rfl rfl ?_
  refine S.max2 rfl rfl rfl ?_
  refine S.fieldB Try.underlying25 rfl ti2 rfl rfl rfl rfl ?_
  refine S.loadB (i := 2) hS4 rfl Try.underlying2 rfl rfl rfl rfl ?_
  refine S.fieldB Try.underlying25 rfl ti2 rfl rfl rfl rfl ?_
  refine S.loadB (i := 1) hS4 rfl Try.underlying2 rfl rfl rfl rfl ?_
  refine S.min2 rfl rfl rfl ?_
  refine S.buildStruct [.int _ _, .int _ _] [(0, 1), (1, 1)] Try.underlying25 ti25 rfl (by kernel_rfl) rfl rfl rfl rfl rfl rfl ?_
  refine S.storeB (i := 0) hS4 rfl ti25 rfl rfl rfl rfl rfl rfl rfl rfl ?_
  intro w2001 hS2001; clear hS4
  refine WS.done ?_
  refine WR.ret (retC rfl rfl (run_loadBA (i := 0) hS2001 rfl Try.underlying25 rfl ti25 rfl rfl) ?_)
  exact ⟨rfl, hS2001.drop.drop.drop⟩

set_option maxRecDepth 100000 in
set_option maxHeartbeats 4000000 in
theorem g_fold {w : World} {R : Kn} {L : List HP}  (hS : St w R (L)) {a b : Int} {v1 : Value} {xs : List (Int × Int)} {cf : FuncId} {F : Int × Int → Int × Int → Int × Int} (h1 : Ro R gpE 2 v1 xs) (hm : xs.length ≤ 1000000) (hE : Ent Try.prog cf) (hcf : ∀ {w : World} {R : Kn} {L : List HP} (hS : St w R L) {a b c d : Int}, Fn Try.prog cf #[.agg #[.int .i64 a, .int .i64 b], .agg #[.int .i64 c, .int .i64 d]] w (fun v w' => v = .agg #[.int .i64 (F (a, b) (c, d)).1, .int .i64 (F (a, b) (c, d)).2] ∧ St w' R L)) :
    Fn Try.prog 38 #[.agg #[.int .i64 a, .int .i64 b], v1, .func (.func cf) #[] #[]] w (fun v w' => ∃ p q e, v = .tuple #[.agg #[.int .i64 p, .int .i64 q], .int .i64 e] ∧ FoldP F (a, b) xs p q e ∧ St w' R L) := by
  obtain ⟨a1, c1, rfl, hl1⟩ := h1.len
  refine Fn.intro (n := 41) Try.func38 rfl rfl rfl ?_
  refine WR.seq ?_
  refine WR.region rfl ?_
  refine S.box hS rfl rfl rfl ?_
  intro b3 w3 hS3; clear hS
  refine S.alloc hS3 ti25 rfl rfl ?_
  intro b6 w6 hS6; clear hS3
  refine S.assignC rfl ?_
  refine WS.done ?_
  refine WR.seq ?_
  refine WR.seq ?_
  refine WR.region rfl ?_
  refine S.moveT rfl ?_
  refine S.lenSl Try.underlying68 rfl rfl ?_
  refine S.moveC rfl ?_
  refine WS.done ?_
  refine WR.block ?_
  refine WR.loopE (fun rq mm rr wr => ∃ (i : Nat), mm = xs.length - i ∧ (i ≤ xs.length ∧ (∀ x ∈ xs.take i, x.1 ≤ x.2)) ∧ rr 14 = .int .i64 (i : Int) ∧ Agr [1, 2, 3, 6, 12, 13] rr rq ∧ St wr R (blk b6 (.cells (#[.int .i64 0, .int .i64 0]) 25 (0, 0)) :: blk b3 (.cells (#[.int .i64 a, .int .i64 b]) 25 (0, 0)) :: L)) ⟨0, rfl, (by exact ⟨by omega, fun x h => by simp at h⟩), rfl, ⟨rfl, rfl, rfl, rfl, rfl, rfl, trivial⟩, hS6⟩ ?_
  rintro mm rr w1001 ⟨i, hm1001, ⟨hi, hall⟩, hr1001_14, hA1001, hS1001⟩
  obtain ⟨rr, rfl⟩ := agrBack hA1001
  clear hA1001
  obtain ⟨rr, rfl⟩ := back1 (r := rr) hr1001_14
  clear hr1001_14
  refine WR.seq ?_
  refine WR.region rfl ?_
  refine S.lss rfl rfl rfl ?_
  refine WS.done ?_
  refine WR.seq ?_
  refine WR.condD rfl (fun c15 => ?_) (fun c15 => ?_)
  ·
    skip
    refine WR.skip ?_
    refine WR.seq ?_
    refine WR.block ?_
    refine WR.seq ?_
    refine WR.region rfl ?_
    refine S.indexRo h1 Try.underlying68 ti25 rfl rfl (by omega) rfl ?_
    intro ad16 u16 hu16 hl16 hc16
    refine S.loadRoA hS1001 hc16 hl16 Try.underlying25 rfl ti25 rfl rfl ?_
    refine S.alloc hS1001 ti25 rfl rfl ?_
    intro b9 w9 hS9; clear hS1001
    refine S.storeB (i := 0) hS9 rfl ti25 rfl rfl rfl rfl rfl rfl rfl rfl ?_
    intro w2001 hS2001; clear hS9
    refine WS.done ?_
    refine WR.seq ?_
    refine WR.region rfl ?_
    refine S.loadBA (i := 0) hS2001 rfl Try.underlying25 rfl ti25 rfl rfl rfl rfl ?_
    refine S.call ent37 rfl (g_right hS2001 ) rfl ?_
    rintro _ w19 ⟨rfl, hS19⟩
    clear hS2001
    refine S.notD rfl rfl ?_
    refine WS.done ?_
    refine WR.condD rfl (fun c20 => ?_) (fun c20 => ?_)
    ·
      skip
      refine WR.seq ?_
      refine WR.region rfl ?_
      refine S.buildZero ti25 rfl (by kernel_rfl) rfl ?_
      refine S.storeB (i := 1) hS19 rfl ti25 rfl rfl rfl rfl rfl rfl rfl rfl ?_
      intro w2002 hS2002; clear hS19
      refine S.assignC rfl ?_
      refine WS.done ?_
      refine WR.ret (retC1 rfl rfl (run_loadBA (i := 1) hS2002 rfl Try.underlying25 rfl ti25 rfl rfl) rfl ?_)
      exact ⟨_, _, _, rfl, .inl ⟨fun h => absurd (h _ (List.mem_of_getElem? hu16)) (by omega), rfl, rfl, rfl⟩, hS2002.drop.drop.drop⟩
    ·
      skip
      refine WR.skip ?_
      refine WR.region rfl ?_
      first
        | refine S.addN rfl rfl rfl (by omega) ?_
        | refine S.add rfl rfl rfl ?_
      refine S.moveT rfl ?_
      refine WS.done ?_
      exact ⟨_, (by omega), ⟨i + 1, rfl, (by exact ⟨by omega, all_take hall (getZ hu16) (by omega)⟩), rfl, ⟨rfl, rfl, rfl, rfl, rfl, rfl, trivial⟩, hS19.drop⟩⟩
  ·
    skip
    refine WR.exit ?_
    refine WR.seq ?_
    refine WR.seq ?_
    refine WR.region rfl ?_
    refine S.moveT rfl ?_
    refine S.lenSl Try.underlying68 rfl rfl ?_
    refine S.moveC rfl ?_
    refine WS.done ?_
    refine WR.block ?_
    refine WR.loopE (fun rq mm rr wr => ∃ (i : Nat) (c d : Int), mm = xs.length - i ∧ (i ≤ xs.length ∧ (xs.take i).foldl F (a, b) = (c, d)) ∧ rr 25 = .int .i64 (i : Int) ∧ Agr [2, 3, 6, 23, 24] rr rq ∧ St wr R (blk b6 (.cells (#[.int .i64 0, .int .i64 0]) 25 (0, 0)) :: blk b3 (.cells (#[.int .i64 c, .int .i64 d]) 25 (0, 0)) :: L)) ⟨0, a, b, rfl, (by exact ⟨by omega, rfl⟩), rfl, ⟨rfl, rfl, rfl, rfl, rfl, trivial⟩, hS1001⟩ ?_
    rintro mm rr w1002 ⟨i, c, d, hm1002, ⟨hi, hfd⟩, hr1002_25, hA1002, hS1002⟩
    obtain ⟨rr, rfl⟩ := agrBack hA1002
    clear hA1002
    obtain ⟨rr, rfl⟩ := back1 (r := rr) hr1002_25
    clear hr1002_25
    have hall2 : ∀ x ∈ xs, x.1 ≤ x.2 := by rwa [List.take_of_length_le (by omega)] at hall
    refine WR.seq ?_
    refine WR.region rfl ?_
    refine S.lss rfl rfl rfl ?_
    refine WS.done ?_
    refine WR.seq ?_
    refine WR.condD rfl (fun c26 => ?_) (fun c26 => ?_)
    ·
      skip
      refine WR.skip ?_
      refine WR.seq ?_
      refine WR.block ?_
      refine WR.seq ?_
      refine WR.region rfl ?_
      refine S.indexRo h1 Try.underlying68 ti25 rfl rfl (by omega) rfl ?_
      intro ad27 u27 hu27 hl27 hc27
      refine S.loadRoA hS1002 hc27 hl27 Try.underlying25 rfl ti25 rfl rfl ?_
      refine S.alloc hS1002 ti25 rfl rfl ?_
      intro b11 w11 hS11; clear hS1002
      refine S.storeB (i := 0) hS11 rfl ti25 rfl rfl rfl rfl rfl rfl rfl rfl ?_
      intro w2003 hS2003; clear hS11
      refine WS.done ?_
      refine WR.region rfl ?_
      refine S.moveT rfl ?_
      refine S.loadBA (i := 2) hS2003 rfl Try.underlying25 rfl ti25 rfl rfl rfl rfl ?_
      refine S.loadBA (i := 0) hS2003 rfl Try.underlying25 rfl ti25 rfl rfl rfl rfl ?_
      refine S.callV hE rfl rfl (hcf hS2003 ) rfl ?_
      rintro _ w32 ⟨rfl, hS32⟩
      clear hS2003
      refine S.storeB (i := 2) hS32 rfl ti25 rfl rfl rfl rfl rfl rfl rfl rfl ?_
      intro w2004 hS2004; clear hS32
      refine WS.done ?_
      refine WR.region rfl ?_
      first
        | refine S.addN rfl rfl rfl (by omega) ?_
        | refine S.add rfl rfl rfl ?_
      refine S.moveT rfl ?_
      refine WS.done ?_
      exact ⟨_, (by omega), ⟨i + 1, _, _, rfl, (by exact ⟨by omega, by rw [fold_succ (getZ hu27), hfd]⟩), rfl, ⟨rfl, rfl, rfl, rfl, rfl, trivial⟩, hS2004.drop⟩⟩
    ·
      skip
      refine WR.exit ?_
      refine WR.seq ?_
      refine WR.region rfl ?_
      refine S.fieldB Try.underlying25 rfl ti2 rfl rfl rfl rfl ?_
      refine S.loadB (i := 1) hS1002 rfl Try.underlying2 rfl rfl rfl rfl ?_
      refine S.fieldB Try.underlying25 rfl ti2 rfl rfl rfl rfl ?_
      refine S.loadB (i := 1) hS1002 rfl Try.underlying2 rfl rfl rfl rfl ?_
      refine S.call ent53 rfl (g_ends hS1002 ) rfl ?_
      rintro _ w38 ⟨p38, q38, e38, rfl, hG38, hS38⟩
      clear hS1002
      refine S.extract rfl rfl rfl ?_
      refine S.extract rfl rfl rfl ?_
      refine S.storeB (i := 0) hS38 rfl ti25 rfl rfl rfl rfl rfl rfl rfl rfl ?_
      intro w2005 hS2005; clear hS38
      refine S.assignT rfl ?_
      refine WS.done ?_
      refine WR.ret (retC1 rfl rfl (run_loadBA (i := 0) hS2005 rfl Try.underlying25 rfl ti25 rfl rfl) rfl ?_)
      rw [List.take_of_length_le (by omega)] at hfd
      exact ⟨_, _, _, rfl, by unfold FoldP; rw [hfd]; exact Or.inr (by rcases hG38 with h | h | h <;> first | (exfalso; omega) | exact Or.inl ⟨hall2, by simpa using h.2.2.1, h.2.2.2⟩ | exact Or.inr ⟨hall2, by simpa using h.2.2.1, h.2.2.2⟩), hS2005.drop.drop⟩

set_option maxRecDepth 100000 in
set_option maxHeartbeats 4000000 in
theorem g_meet {w : World} {R : Kn} {L : List HP}  (hS : St w R (L)) {v1 : Value} {xs : List (Int × Int)} (h1 : Ro R gpE 2 v1 xs) (hm : xs.length ≤ 1000000) :
    Fn Try.prog 22 #[v1] w (fun v w' => ∃ p q e, v = .tuple #[.agg #[.int .i64 p, .int .i64 q], .int .i64 e] ∧ FoldP meetF (-9223372036854775808, 9223372036854775807) xs p q e ∧ St w' R L) := by
  refine Fn.intro (n := 9) Try.func22 rfl rfl rfl ?_
  refine WR.seq ?_
  refine WR.region rfl ?_
  refine S.alloc hS ti25 rfl rfl ?_
  intro b2 w2 hS2; clear hS
  refine S.assignC rfl ?_
  refine WS.done ?_
  refine WR.seq ?_
  refine WR.region rfl ?_
  refine S.buildStruct [.int _ _, .int _ _] [(0, 1), (1, 1)] Try.underlying25 ti25 rfl (by kernel_rfl) rfl rfl rfl rfl rfl rfl ?_
  refine S.moveT rfl ?_
  refine S.call ent38 rfl (g_fold hS2 (by exact h1) (by exact hm) (by exact ent39) (g_meet1)) rfl ?_
  rintro _ w6 ⟨p6, q6, e6, rfl, hG6, hS6⟩
  clear hS2
  refine S.extract rfl rfl rfl ?_
  refine S.extract rfl rfl rfl ?_
  refine S.storeB (i := 0) hS6 rfl ti25 rfl rfl rfl rfl rfl rfl rfl rfl ?_
  intro w2001 hS2001; clear hS6
  refine S.assignT rfl ?_
  refine WS.done ?_
  refine WR.ret (retC1 rfl rfl (run_loadBA (i := 0) hS2001 rfl Try.underlying25 rfl ti25 rfl rfl) rfl ?_)
  exact ⟨_, _, _, rfl, hG6, hS2001.drop⟩


end Go.Proofs.Yteibodpeknlchaa.B

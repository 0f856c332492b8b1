import Derived.Test.YtogciedegglogaaWalkS
namespace Go.Proofs.Ytogciedegglogaa.B
open Go.Proofs Go.RowKit
set_option linter.unusedVariables false
set_option linter.unusedSimpArgs false
set_option maxRecDepth 100000 in
set_option maxHeartbeats 4000000 in
theorem g_new {w : World} {R : Kn} {L : List HP} (hS : St w R (L)) {a b : Int} :
    Fn Try.prog 8 #[.int .i64 a, .int .i64 b] w (fun v w' => ∃ p q, v = .tuple #[.agg #[.int .i64 p, .int .i64 q], .bool (decide (a ≤ b))] ∧ ((b < a ∧ p = 0 ∧ q = 0) ∨ (a ≤ b ∧ p = a ∧ q = b)) ∧ St w' R L) := by
  refine Fn.intro (n := 13) Try.func8 rfl rfl rfl ?_
  refine WR.seq ?_
  refine WR.region rfl ?_
  refine S.alloc hS ti23 rfl rfl ?_
  intro b4 w4 hS4; clear hS
  refine S.assignC rfl ?_
  refine WS.done ?_
  refine WR.seq ?_
  refine WR.seq ?_
  refine WR.region rfl ?_
  refine S.moveT rfl ?_
  refine S.moveT rfl ?_
  refine S.gtr rfl rfl rfl ?_
  refine WS.done ?_
  refine WR.condD rfl (fun c8 => ?_) (fun c8 => ?_)
  ·
    skip
    refine WR.seq ?_
    refine WR.region rfl ?_
    refine S.buildZero ti23 rfl (by kernel_rfl) rfl ?_
    refine S.storeB (i := 0) hS4 rfl ti23 rfl rfl rfl rfl rfl rfl rfl rfl ?_
    intro w2001 hS2001; clear hS4
    refine S.assignC rfl ?_
    refine WS.done ?_
    refine WR.ret (retC1 rfl rfl (run_loadBA (i := 0) hS2001 rfl Try.underlying23 rfl ti23 rfl rfl) rfl ?_)
    exact ⟨0, 0, tup2 rfl (congrArg Value.bool (decide_eq_false (by omega)).symm), by omega, hS2001.drop⟩
  ·
    skip
    refine WR.skip ?_
    refine WR.seq ?_
    refine WR.region rfl ?_
    refine S.moveT rfl ?_
    refine S.moveT rfl ?_
    refine S.buildStruct [.int _ _, .int _ _] [(0, 1), (1, 1)] Try.underlying23 ti23 rfl (by kernel_rfl) rfl rfl rfl rfl rfl rfl ?_
    refine S.storeB (i := 0) hS4 rfl ti23 rfl rfl rfl rfl rfl rfl rfl rfl ?_
    intro w2002 hS2002; clear hS4
    refine S.assignC rfl ?_
    refine WS.done ?_
    refine WR.ret (retC1 rfl rfl (run_loadBA (i := 0) hS2002 rfl Try.underlying23 rfl ti23 rfl rfl) rfl ?_)
    exact ⟨_, _, tup2 rfl (congrArg Value.bool (decide_eq_true (by omega)).symm), by omega, hS2002.drop⟩

set_option maxRecDepth 100000 in
set_option maxHeartbeats 4000000 in
theorem g_right {w : World} {R : Kn} {L : List HP} (hS : St w R (L)) {a b : Int} :
    Fn Try.prog 14 #[.agg #[.int .i64 a, .int .i64 b]] w (fun v w' => v = .bool (decide (a ≤ b)) ∧ St w' R L) := by
  refine Fn.intro (n := 8) Try.func14 rfl rfl rfl ?_
  refine WR.seq ?_
  refine WR.region rfl ?_
  refine S.box hS rfl rfl rfl ?_
  intro b1 w1 hS1; clear hS
  refine S.assignC rfl ?_
  refine WS.done ?_
  refine WR.seq ?_
  refine WR.region rfl ?_
  refine S.fieldB Try.underlying23 rfl ti2 rfl rfl rfl rfl ?_
  refine S.loadB (i := 0) hS1 rfl Try.underlying2 rfl rfl rfl rfl ?_
  refine S.fieldB Try.underlying23 rfl ti2 rfl rfl rfl rfl ?_
  refine S.loadB (i := 0) hS1 rfl Try.underlying2 rfl rfl rfl rfl ?_
  refine S.leq rfl rfl rfl ?_
  refine S.assignT rfl ?_
  refine WS.done ?_
  refine WR.ret (ret1 rfl rfl ?_)
  exact ⟨rfl, hS1.drop⟩

set_option maxRecDepth 100000 in
set_option maxHeartbeats 4000000 in
theorem g_has {w : World} {R : Kn} {L : List HP} (hS : St w R (L)) {a b x : Int} :
    Fn Try.prog 17 #[.agg #[.int .i64 a, .int .i64 b], .int .i64 x] w (fun v w' => v = .bool (decide (a ≤ x ∧ x ≤ b)) ∧ St w' R L) := by
  refine Fn.intro (n := 15) Try.func17 rfl rfl rfl ?_
  refine WR.seq ?_
  refine WR.region rfl ?_
  refine S.box hS rfl rfl rfl ?_
  intro b2 w2 hS2; clear hS
  refine S.assignC rfl ?_
  refine WS.done ?_
  refine WR.seq ?_
  refine WR.region rfl ?_
  refine S.fieldB Try.underlying23 rfl ti2 rfl rfl rfl rfl ?_
  refine S.loadB (i := 0) hS2 rfl Try.underlying2 rfl rfl rfl rfl ?_
  refine S.moveT rfl ?_
  refine S.leq rfl rfl rfl ?_
  refine S.moveT rfl ?_
  refine S.splitD (d := 9) rfl (fun c9 => ?_) (fun c9 => ?_)
  ·
    skip
    refine S.moveT rfl ?_
    refine S.fieldB Try.underlying23 rfl ti2 rfl rfl rfl rfl ?_
    refine S.loadB (i := 0) hS2 rfl Try.underlying2 rfl rfl rfl rfl ?_
    refine S.leq rfl rfl rfl ?_
    refine S.pickT rfl rfl ?_
    refine S.assignT rfl ?_
    refine WS.done ?_
    refine WR.ret (ret1 rfl rfl ?_)
    exact ⟨congrArg Value.bool (by first | exact decide_eq_decide.2 (by omega) | exact (decide_eq_false (by omega)).symm | exact (decide_eq_true (by omega)).symm), hS2.drop⟩
  ·
    skip
    refine S.off rfl ?_
    refine S.off rfl ?_
    refine S.off rfl ?_
    refine S.off rfl ?_
    refine S.pickFC rfl rfl ?_
    refine S.assignT rfl ?_
    refine WS.done ?_
    refine WR.ret (ret1 rfl rfl ?_)
    exact ⟨congrArg Value.bool (by first | exact decide_eq_decide.2 (by omega) | exact (decide_eq_false (by omega)).symm | exact (decide_eq_true (by omega)).symm), hS2.drop⟩

set_option maxRecDepth 100000 in
set_option maxHeartbeats 4000000 in
theorem g_within {w : World} {R : Kn} {L : List HP} (hS : St w R (L)) {a b c d : Int} :
    Fn Try.prog 18 #[.agg #[.int .i64 a, .int .i64 b], .agg #[.int .i64 c, .int .i64 d]] w (fun v w' => v = .bool (decide (a ≤ b ∧ c ≤ a ∧ b ≤ d)) ∧ St w' R L) := by
  refine Fn.intro (n := 21) Try.func18 rfl rfl rfl ?_
  refine WR.seq ?_
  refine WR.region rfl ?_
  refine S.box hS rfl rfl rfl ?_
  intro b2 w2 hS2; clear hS
  refine S.box hS2 rfl rfl rfl ?_
  intro b3 w3 hS3; clear hS2
  refine S.assignC rfl ?_
  refine WS.done ?_
  refine WR.seq ?_
  refine WR.region rfl ?_
  refine S.loadBA (i := 1) hS3 rfl Try.underlying23 rfl ti23 rfl rfl rfl rfl ?_
  refine S.call ent14 rfl (g_right hS3 ) rfl ?_
  rintro _ w6 ⟨rfl, hS6⟩
  clear hS3
  refine S.moveT rfl ?_
  refine S.splitD (d := 7) rfl (fun c7 => ?_) (fun c7 => ?_)
  ·
    skip
    refine S.fieldB Try.underlying23 rfl ti2 rfl rfl rfl rfl ?_
    refine S.loadB (i := 0) hS6 rfl Try.underlying2 rfl rfl rfl rfl ?_
    refine S.fieldB Try.underlying23 rfl ti2 rfl rfl rfl rfl ?_
    refine S.loadB (i := 1) hS6 rfl Try.underlying2 rfl rfl rfl rfl ?_
    refine S.leq rfl rfl rfl ?_
    refine S.pickT rfl rfl ?_
    refine S.moveT rfl ?_
    refine S.splitD (d := 14) rfl (fun c14 => ?_) (fun c14 => ?_)
    ·
      skip
      refine S.fieldB Try.underlying23 rfl ti2 rfl rfl rfl rfl ?_
      refine S.loadB (i := 1) hS6 rfl Try.underlying2 rfl rfl rfl rfl ?_
      refine S.fieldB Try.underlying23 rfl ti2 rfl rfl rfl rfl ?_
      refine S.loadB (i := 0) hS6 rfl Try.underlying2 rfl rfl rfl rfl ?_
      refine S.leq rfl rfl rfl ?_
      refine S.pickT rfl rfl ?_
      refine S.assignT rfl ?_
      refine WS.done ?_
      refine WR.ret (ret1 rfl rfl ?_)
      exact ⟨congrArg Value.bool (by first | exact decide_eq_decide.2 (by omega) | exact (decide_eq_false (by omega)).symm | exact (decide_eq_true (by omega)).symm), hS6.drop.drop⟩
    ·
      skip
      refine S.off rfl ?_
      refine S.off rfl ?_
      refine S.off rfl ?_
      refine S.off rfl ?_
      refine S.off rfl ?_
      refine S.pickFC rfl rfl ?_
      refine S.assignT rfl ?_
      refine WS.done ?_
      refine WR.ret (ret1 rfl rfl ?_)
      exact ⟨congrArg Value.bool (by first | exact decide_eq_decide.2 (by omega) | exact (decide_eq_false (by omega)).symm | exact (decide_eq_true (by omega)).symm), hS6.drop.drop⟩
  ·
    skip
    refine S.off rfl ?_
    refine S.off rfl ?_
    refine S.off rfl ?_
    refine S.off rfl ?_
    refine S.off rfl ?_
    refine S.pickFC rfl rfl ?_
    refine S.moveT rfl ?_
    refine S.off rfl ?_
    refine S.off rfl ?_
    refine S.off rfl ?_
    refine S.off rfl ?_
    refine S.off rfl ?_
    refine S.pickFC rfl rfl ?_
    refine S.assignT rfl ?_
    refine WS.done ?_
    refine WR.ret (ret1 rfl rfl ?_)
    exact ⟨congrArg Value.bool (by first | exact decide_eq_decide.2 (by omega) | exact (decide_eq_false (by omega)).symm | exact (decide_eq_true (by omega)).symm), hS6.drop.drop⟩

set_option maxRecDepth 100000 in
set_option maxHeartbeats 4000000 in
theorem g_width {w : World} {R : Kn} {L : List HP} (hS : St w R (L)) {a b : Int} (ha : fits a) (hb : fits b) :
    Fn Try.prog 19 #[.agg #[.int .i64 a, .int .i64 b]] w (fun v w' => v = .int .u64 (wd a b) ∧ St w' R L) := by
  obtain ⟨ha1, ha2⟩ := ha
  obtain ⟨hb1, hb2⟩ := hb
  refine Fn.intro (n := 13) Try.func19 rfl rfl rfl ?_
  refine WR.seq ?_
  refine WR.region rfl ?_
  refine S.box hS rfl rfl rfl ?_
  intro b1 w1 hS1; clear hS
  refine S.assignC rfl ?_
  refine WS.done ?_
  refine WR.seq ?_
  refine WR.seq ?_
  refine WR.region rfl ?_
  refine S.loadBA (i := 0) hS1 rfl Try.underlying23 rfl ti23 rfl rfl rfl rfl ?_
  refine S.call ent14 rfl (g_right hS1 ) rfl ?_
  rintro _ w4 ⟨rfl, hS4⟩
  clear hS1
  refine S.notD rfl rfl ?_
  refine WS.done ?_
  refine WR.condD rfl (fun c5 => ?_) (fun c5 => ?_)
  ·
    skip
    refine WR.seq ?_
    refine WR.region rfl ?_
    refine S.assignC rfl ?_
    refine WS.done ?_
    refine WR.ret (ret1 rfl rfl ?_)
    exact ⟨congrArg (Value.int .u64) (by have := wd_cases a b; omega), hS4.drop⟩
  ·
    skip
    refine WR.skip ?_
    refine WR.seq ?_
    refine WR.region rfl ?_
    refine S.fieldB Try.underlying23 rfl ti2 rfl rfl rfl rfl ?_
    refine S.loadB (i := 0) hS4 rfl Try.underlying2 rfl rfl rfl rfl ?_
    first
      | refine S.convN Try.underlying2 Try.underlying40 rfl rfl (wrap_u64 (by omega) (by omega)) ?_
      | refine S.conv Try.underlying2 Try.underlying40 rfl rfl ?_
    refine S.fieldB Try.underlying23 rfl ti2 rfl rfl rfl rfl ?_
    refine S.loadB (i := 0) hS4 rfl Try.underlying2 rfl rfl rfl rfl ?_
    first
      | refine S.convN Try.underlying2 Try.underlying40 rfl rfl (wrap_u64 (by omega) (by omega)) ?_
      | refine S.conv Try.underlying2 Try.underlying40 rfl rfl ?_
    first
      | refine S.subU rfl rfl rfl (by omega) ?_
      | refine S.sub rfl rfl rfl ?_
    refine S.assignT rfl ?_
    refine WS.done ?_
    refine WR.ret (ret1 rfl rfl ?_)
    exact ⟨congrArg (Value.int .u64) (wd_wrap (by omega) ha1 hb2), hS4.drop⟩

set_option maxRecDepth 100000 in
set_option maxHeartbeats 4000000 in
theorem g_mid {w : World} {R : Kn} {L : List HP} (hS : St w R (L)) {a b : Int} (ha : fits a) (hb : fits b) :
    Fn Try.prog 15 #[.agg #[.int .i64 a, .int .i64 b]] w (fun v w' => v = .int .i64 (md a b) ∧ St w' R L) := by
  have hw := wd_cases a b
  have hd := md_cases a b
  have ha' := ha
  have hb' := hb
  obtain ⟨ha1, ha2⟩ := ha
  obtain ⟨hb1, hb2⟩ := hb
  refine Fn.intro (n := 13) Try.func15 rfl rfl rfl ?_
  refine WR.seq ?_
  refine WR.region rfl ?_
  refine S.box hS rfl rfl rfl ?_
  intro b1 w1 hS1; clear hS
  refine S.assignC rfl ?_
  refine WS.done ?_
  refine WR.seq ?_
  refine WR.seq ?_
  refine WR.region rfl ?_
  refine S.loadBA (i := 0) hS1 rfl Try.underlying23 rfl ti23 rfl rfl rfl rfl ?_
  refine S.call ent14 rfl (g_right hS1 ) rfl ?_
  rintro _ w4 ⟨rfl, hS4⟩
  clear hS1
  refine S.notD rfl rfl ?_
  refine WS.done ?_
  refine WR.condD rfl (fun c5 => ?_) (fun c5 => ?_)
  ·
    skip
    refine WR.seq ?_
    refine WR.region rfl ?_
    refine S.assignC rfl ?_
    refine WS.done ?_
    refine WR.ret (ret1 rfl rfl ?_)
    exact ⟨congrArg (Value.int .i64) (by omega), hS4.drop⟩
  ·
    skip
    refine WR.skip ?_
    refine WR.seq ?_
    refine WR.regionQ mixed hS4 (by kernel_rfl) rfl ?_
    refine Q.fieldB Try.underlying23 rfl ti2 rfl rfl rfl rfl ?_
    refine Q.loadB (i := 0) rfl Try.underlying2 rfl rfl rfl rfl ?_
    refine Q.loadBA (i := 0) rfl Try.underlying23 rfl ti23 rfl rfl rfl rfl ?_
    refine Q.call ent19 rfl (fun w hQ => g_width hQ (by exact ha') (by exact hb')) rfl ?_
    refine Q.shrC (q := 2) rfl rfl rfl (by decide) rfl rfl ?_
    first
      | refine Q.convN Try.underlying40 Try.underlying2 rfl rfl (wrap_i64 (by omega) (by omega)) ?_
      | refine Q.conv Try.underlying40 Try.underlying2 rfl rfl ?_
    first
      | refine Q.addN rfl rfl rfl (by omega) ?_
      | refine Q.add rfl rfl rfl ?_
    refine Q.assignT rfl ?_
    refine WQ.done ?_
    intro w5001 hS5001
    clear hS4
    refine WR.ret (ret1 rfl rfl ?_)
    exact ⟨congrArg (Value.int .i64) (by omega), hS5001.drop⟩

set_option maxRecDepth 100000 in
set_option maxHeartbeats 4000000 in
theorem g_ends {w : World} {R : Kn} {L : List HP} (hS : St w R (L)) {a e b f : Int} :
    Fn Try.prog 26 #[.int .i64 a, .int .i64 e, .int .i64 b, .int .i64 f] w (fun v w' => ∃ p q g, v = .tuple #[.agg #[.int .i64 p, .int .i64 q], .int .i64 g] ∧ (((e ≠ 0 ∨ f ≠ 0) ∧ p = 0 ∧ q = 0 ∧ g = 12) ∨ (e = 0 ∧ f = 0 ∧ b < a ∧ p = 0 ∧ q = 0 ∧ g = 13) ∨ (e = 0 ∧ f = 0 ∧ a ≤ b ∧ p = a ∧ q = b ∧ g = 0)) ∧ St w' R L) := by
  refine Fn.intro (n := 29) Try.func26 rfl rfl rfl ?_
  refine WR.seq ?_
  refine WR.region rfl ?_
  refine S.alloc hS ti23 rfl rfl ?_
  intro b8 w8 hS8; clear hS
  refine S.assignC rfl ?_
  refine WS.done ?_
  refine WR.seq ?_
  refine WR.seq ?_
  refine WR.region rfl ?_
  refine S.moveT rfl ?_
  refine S.neq rfl rfl rfl ?_
  refine S.moveT rfl ?_
  refine S.splitD (d := 14) rfl (fun c14 => ?_) (fun c14 => ?_)
  ·
    skip
    refine S.off rfl ?_
    refine S.off rfl ?_
    refine S.pickTC rfl rfl ?_
    refine WS.done ?_
    refine WR.condT rfl ?_
    refine WR.seq ?_
    refine WR.region rfl ?_
    refine S.buildZero ti23 rfl (by kernel_rfl) rfl ?_
    refine S.storeB (i := 0) hS8 rfl ti23 rfl rfl rfl rfl rfl rfl rfl rfl ?_
    intro w2001 hS2001; clear hS8
    refine S.assignC rfl ?_
    refine WS.done ?_
    refine WR.ret (retC1 rfl rfl (run_loadBA (i := 0) hS2001 rfl Try.underlying23 rfl ti23 rfl rfl) rfl ?_)
    first | exact ⟨_, _, _, rfl, by omega, hS2001.drop⟩ | exact ⟨_, _, _, rfl, by omega, hS2001.drop.drop⟩
  ·
    skip
    refine S.moveT rfl ?_
    refine S.neq rfl rfl rfl ?_
    refine S.pickF rfl rfl ?_
    refine WS.done ?_
    refine WR.condD rfl (fun c17 => ?_) (fun c17 => ?_)
    ·
      skip
      refine WR.seq ?_
      refine WR.region rfl ?_
      refine S.buildZero ti23 rfl (by kernel_rfl) rfl ?_
      refine S.storeB (i := 0) hS8 rfl ti23 rfl rfl rfl rfl rfl rfl rfl rfl ?_
      intro w2002 hS2002; clear hS8
      refine S.assignC rfl ?_
      refine WS.done ?_
      refine WR.ret (retC1 rfl rfl (run_loadBA (i := 0) hS2002 rfl Try.underlying23 rfl ti23 rfl rfl) rfl ?_)
      first | exact ⟨_, _, _, rfl, by omega, hS2002.drop⟩ | exact ⟨_, _, _, rfl, by omega, hS2002.drop.drop⟩
    ·
      skip
      refine WR.skip ?_
      refine WR.seq ?_
      refine WR.region rfl ?_
      refine S.moveT rfl ?_
      refine S.moveT rfl ?_
      refine S.call ent8 rfl (g_new hS8 ) rfl ?_
      rintro _ w22 ⟨p22, q22, rfl, hG22, hS22⟩
      clear hS8
      refine S.moveT rfl ?_
      refine S.extract rfl rfl rfl ?_
      refine S.extract rfl rfl rfl ?_
      refine S.alloc hS22 ti23 rfl rfl ?_
      intro b10 w10 hS10; clear hS22
      refine S.storeB (i := 0) hS10 rfl ti23 rfl rfl rfl rfl rfl rfl rfl rfl ?_
      intro w2003 hS2003; clear hS10
      refine S.assignT rfl ?_
      refine WS.done ?_
      refine WR.seq ?_
      refine WR.seq ?_
      refine WR.region rfl ?_
      refine S.moveT rfl ?_
      refine S.notD rfl rfl ?_
      refine WS.done ?_
      refine WR.condD rfl (fun c26 => ?_) (fun c26 => ?_)
      ·
        skip
        refine WR.seq ?_
        refine WR.region rfl ?_
        refine S.buildZero ti23 rfl (by kernel_rfl) rfl ?_
        refine S.storeB (i := 1) hS2003 rfl ti23 rfl rfl rfl rfl rfl rfl rfl rfl ?_
        intro w2004 hS2004; clear hS2003
        refine S.assignC rfl ?_
        refine WS.done ?_
        refine WR.ret (retC1 rfl rfl (run_loadBA (i := 1) hS2004 rfl Try.underlying23 rfl ti23 rfl rfl) rfl ?_)
        first | exact ⟨_, _, _, rfl, by omega, hS2004.drop⟩ | exact ⟨_, _, _, rfl, by omega, hS2004.drop.drop⟩
      ·
        skip
        refine WR.skip ?_
        refine WR.seq ?_
        refine WR.region rfl ?_
        refine S.loadBA (i := 0) hS2003 rfl Try.underlying23 rfl ti23 rfl rfl rfl rfl ?_
        refine S.storeB (i := 1) hS2003 rfl ti23 rfl rfl rfl rfl rfl rfl rfl rfl ?_
        intro w2005 hS2005; clear hS2003
        refine S.assignC rfl ?_
        refine WS.done ?_
        refine WR.ret (retC1 rfl rfl (run_loadBA (i := 1) hS2005 rfl Try.underlying23 rfl ti23 rfl rfl) rfl ?_)
        first | exact ⟨_, _, _, rfl, by omega, hS2005.drop⟩ | exact ⟨_, _, _, rfl, by omega, hS2005.drop.drop⟩

set_option maxRecDepth 100000 in
set_option maxHeartbeats 4000000 in
theorem g_shift {w : World} {R : Kn} {L : List HP} (hS : St w R (L)) {a b x : Int} (ha : fits a) (hb : fits b) (hx : fits x) :
    Fn Try.prog 9 #[.agg #[.int .i64 a, .int .i64 b], .int .i64 x] w (fun v w' => ∃ p q e, v = .tuple #[.agg #[.int .i64 p, .int .i64 q], .int .i64 e] ∧ ((b < a ∧ p = 0 ∧ q = 0 ∧ e = 10) ∨ (a ≤ b ∧ ((a + x < -9223372036854775808 ∨ 9223372036854775807 < a + x) ∨ (b + x < -9223372036854775808 ∨ 9223372036854775807 < b + x)) ∧ p = 0 ∧ q = 0 ∧ e = 12) ∨ (a ≤ b ∧ (-9223372036854775808 ≤ a + x ∧ a + x ≤ 9223372036854775807) ∧ (-9223372036854775808 ≤ b + x ∧ b + x ≤ 9223372036854775807) ∧ (b + x) < (a + x) ∧ p = 0 ∧ q = 0 ∧ e = 13) ∨ (a ≤ b ∧ (-9223372036854775808 ≤ a + x ∧ a + x ≤ 9223372036854775807) ∧ (-9223372036854775808 ≤ b + x ∧ b + x ≤ 9223372036854775807) ∧ (a + x) ≤ (b + x) ∧ p = (a + x) ∧ q = (b + x) ∧ e = 0)) ∧ St w' R L) := by
  refine Fn.intro (n := 35) Try.func9 rfl rfl rfl ?_
  refine WR.seq ?_
  refine WR.region rfl ?_
  refine S.box hS rfl rfl rfl ?_
  intro b2 w2 hS2; clear hS
  refine S.alloc hS2 ti23 rfl rfl ?_
  intro b4 w4 hS4; clear hS2
  refine S.assignC rfl ?_
  refine WS.done ?_
  refine WR.seq ?_
  refine WR.seq ?_
  refine WR.region rfl ?_
  refine S.loadBA (i := 1) hS4 rfl Try.underlying23 rfl ti23 rfl rfl rfl rfl ?_
  refine S.call ent14 rfl (g_right hS4 ) rfl ?_
  rintro _ w11 ⟨rfl, hS11⟩
  clear hS4
  refine S.notD rfl rfl ?_
  refine WS.done ?_
  refine WR.condD rfl (fun c12 => ?_) (fun c12 => ?_)
  ·
    skip
    refine WR.seq ?_
    refine WR.region rfl ?_
    refine S.buildZero ti23 rfl (by kernel_rfl) rfl ?_
    refine S.storeB (i := 0) hS11 rfl ti23 rfl rfl rfl rfl rfl rfl rfl rfl ?_
    intro w2001 hS2001; clear hS11
    refine S.assignC rfl ?_
    refine WS.done ?_
    refine WR.ret (retC1 rfl rfl (run_loadBA (i := 0) hS2001 rfl Try.underlying23 rfl ti23 rfl rfl) rfl ?_)
    exact ⟨_, _, _, rfl, by omega, hS2001.drop.drop⟩
  ·
    skip
    refine WR.skip ?_
    refine WR.seq ?_
    refine WR.region rfl ?_
    refine S.fieldB Try.underlying23 rfl ti2 rfl rfl rfl rfl ?_
    refine S.loadB (i := 1) hS11 rfl Try.underlying2 rfl rfl rfl rfl ?_
    refine S.moveT rfl ?_
    refine S.call ent25 rfl (s_add hS11 (by exact ha) (by exact hx)) rfl ?_
    rintro _ w18 ⟨rfl, hS18⟩
    clear hS11
    obtain ⟨p18, e18, hv18, hF18⟩ := told_cases (a + x)
    refine S.as (d := 18) rfl hv18 ?_
    refine S.moveT rfl ?_
    refine S.extract rfl rfl rfl ?_
    refine S.extract rfl rfl rfl ?_
    refine S.assignT rfl ?_
    refine S.assignT rfl ?_
    refine WS.done ?_
    refine WR.seq ?_
    refine WR.region rfl ?_
    refine S.fieldB Try.underlying23 rfl ti2 rfl rfl rfl rfl ?_
    refine S.loadB (i := 1) hS18 rfl Try.underlying2 rfl rfl rfl rfl ?_
    refine S.moveT rfl ?_
    refine S.call ent25 rfl (s_add hS18 (by exact hb) (by exact hx)) rfl ?_
    rintro _ w25 ⟨rfl, hS25⟩
    clear hS18
    obtain ⟨p25, e25, hv25, hF25⟩ := told_cases (b + x)
    refine S.as (d := 25) rfl hv25 ?_
    refine S.moveT rfl ?_
    refine S.extract rfl rfl rfl ?_
    refine S.extract rfl rfl rfl ?_
    refine S.assignT rfl ?_
    refine S.assignT rfl ?_
    refine WS.done ?_
    refine WR.seq ?_
    refine WR.region rfl ?_
    refine S.moveT rfl ?_
    refine S.moveT rfl ?_
    refine S.moveT rfl ?_
    refine S.moveT rfl ?_
    refine S.call ent26 rfl (g_ends hS25 ) rfl ?_
    rintro _ w32 ⟨p32, q32, e32, rfl, hG32, hS32⟩
    clear hS25
    refine S.extract rfl rfl rfl ?_
    refine S.extract rfl rfl rfl ?_
    refine S.storeB (i := 0) hS32 rfl ti23 rfl rfl rfl rfl rfl rfl rfl rfl ?_
    intro w2002 hS2002; clear hS32
    refine S.assignT rfl ?_
    refine WS.done ?_
    refine WR.ret (retC1 rfl rfl (run_loadBA (i := 0) hS2002 rfl Try.underlying23 rfl ti23 rfl rfl) rfl ?_)
    exact ⟨_, _, _, rfl, by omega, hS2002.drop.drop⟩

set_option maxRecDepth 100000 in
set_option maxHeartbeats 4000000 in
theorem g_grow {w : World} {R : Kn} {L : List HP} (hS : St w R (L)) {a b x y : Int} (ha : fits a) (hb : fits b) (hx : fits x) (hy : fits y) :
    Fn Try.prog 10 #[.agg #[.int .i64 a, .int .i64 b], .int .i64 x, .int .i64 y] w (fun v w' => ∃ p q e, v = .tuple #[.agg #[.int .i64 p, .int .i64 q], .int .i64 e] ∧ ((b < a ∧ p = 0 ∧ q = 0 ∧ e = 10) ∨ (a ≤ b ∧ ((a - x < -9223372036854775808 ∨ 9223372036854775807 < a - x) ∨ (b + y < -9223372036854775808 ∨ 9223372036854775807 < b + y)) ∧ p = 0 ∧ q = 0 ∧ e = 12) ∨ (a ≤ b ∧ (-9223372036854775808 ≤ a - x ∧ a - x ≤ 9223372036854775807) ∧ (-9223372036854775808 ≤ b + y ∧ b + y ≤ 9223372036854775807) ∧ (b + y) < (a - x) ∧ p = 0 ∧ q = 0 ∧ e = 13) ∨ (a ≤ b ∧ (-9223372036854775808 ≤ a - x ∧ a - x ≤ 9223372036854775807) ∧ (-9223372036854775808 ≤ b + y ∧ b + y ≤ 9223372036854775807) ∧ (a - x) ≤ (b + y) ∧ p = (a - x) ∧ q = (b + y) ∧ e = 0)) ∧ St w' R L) := by
  refine Fn.intro (n := 37) Try.func10 rfl rfl rfl ?_
  refine WR.seq ?_
  refine WR.region rfl ?_
  refine S.box hS rfl rfl rfl ?_
  intro b3 w3 hS3; clear hS
  refine S.alloc hS3 ti23 rfl rfl ?_
  intro b6 w6 hS6; clear hS3
  refine S.assignC rfl ?_
  refine WS.done ?_
  refine WR.seq ?_
  refine WR.seq ?_
  refine WR.region rfl ?_
  refine S.loadBA (i := 1) hS6 rfl Try.underlying23 rfl ti23 rfl rfl rfl rfl ?_
  refine S.call ent14 rfl (g_right hS6 ) rfl ?_
  rintro _ w13 ⟨rfl, hS13⟩
  clear hS6
  refine S.notD rfl rfl ?_
  refine WS.done ?_
  refine WR.condD rfl (fun c14 => ?_) (fun c14 => ?_)
  ·
    skip
    refine WR.seq ?_
    refine WR.region rfl ?_
    refine S.buildZero ti23 rfl (by kernel_rfl) rfl ?_
    refine S.storeB (i := 0) hS13 rfl ti23 rfl rfl rfl rfl rfl rfl rfl rfl ?_
    intro w2001 hS2001; clear hS13
    refine S.assignC rfl ?_
    refine WS.done ?_
    refine WR.ret (retC1 rfl rfl (run_loadBA (i := 0) hS2001 rfl Try.underlying23 rfl ti23 rfl rfl) rfl ?_)
    exact ⟨_, _, _, rfl, by omega, hS2001.drop.drop⟩
  ·
    skip
    refine WR.skip ?_
    refine WR.seq ?_
    refine WR.region rfl ?_
    refine S.fieldB Try.underlying23 rfl ti2 rfl rfl rfl rfl ?_
    refine S.loadB (i := 1) hS13 rfl Try.underlying2 rfl rfl rfl rfl ?_
    refine S.moveT rfl ?_
    refine S.call ent27 rfl (s_sub hS13 (by exact ha) (by exact hx)) rfl ?_
    rintro _ w20 ⟨rfl, hS20⟩
    clear hS13
    obtain ⟨p20, e20, hv20, hF20⟩ := told_cases (a - x)
    refine S.as (d := 20) rfl hv20 ?_
    refine S.moveT rfl ?_
    refine S.extract rfl rfl rfl ?_
    refine S.extract rfl rfl rfl ?_
    refine S.assignT rfl ?_
    refine S.assignT rfl ?_
    refine WS.done ?_
    refine WR.seq ?_
    refine WR.region rfl ?_
    refine S.fieldB Try.underlying23 rfl ti2 rfl rfl rfl rfl ?_
    refine S.loadB (i := 1) hS20 rfl Try.underlying2 rfl rfl rfl rfl ?_
    refine S.moveT rfl ?_
    refine S.call ent25 rfl (s_add hS20 (by exact hb) (by exact hy)) rfl ?_
    rintro _ w27 ⟨rfl, hS27⟩
    clear hS20
    obtain ⟨p27, e27, hv27, hF27⟩ := told_cases (b + y)
    refine S.as (d := 27) rfl hv27 ?_
    refine S.moveT rfl ?_
    refine S.extract rfl rfl rfl ?_
    refine S.extract rfl rfl rfl ?_
    refine S.assignT rfl ?_
    refine S.assignT rfl ?_
    refine WS.done ?_
    refine WR.seq ?_
    refine WR.region rfl ?_
    refine S.moveT rfl ?_
    refine S.moveT rfl ?_
    refine S.moveT rfl ?_
    refine S.moveT rfl ?_
    refine S.call ent26 rfl (g_ends hS27 ) rfl ?_
    rintro _ w34 ⟨p34, q34, e34, rfl, hG34, hS34⟩
    clear hS27
    refine S.extract rfl rfl rfl ?_
    refine S.extract rfl rfl rfl ?_
    refine S.storeB (i := 0) hS34 rfl ti23 rfl rfl rfl rfl rfl rfl rfl rfl ?_
    intro w2002 hS2002; clear hS34
    refine S.assignT rfl ?_
    refine WS.done ?_
    refine WR.ret (retC1 rfl rfl (run_loadBA (i := 0) hS2002 rfl Try.underlying23 rfl ti23 rfl rfl) rfl ?_)
    exact ⟨_, _, _, rfl, by omega, hS2002.drop.drop⟩

set_option maxRecDepth 100000 in
set_option maxHeartbeats 4000000 in
theorem g_meet1 {w : World} {R : Kn} {L : List HP} (hS : St w R (L)) {a b c d : Int} :
    Fn Try.prog 36 #[.agg #[.int .i64 a, .int .i64 b], .agg #[.int .i64 c, .int .i64 d]] w (fun v w' => v = .agg #[.int .i64 (meetF (a, b) (c, d)).1, .int .i64 (meetF (a, b) (c, d)).2] ∧ St w' R L) := by
  refine Fn.intro (n := 16) Try.func36 rfl rfl rfl ?_
  refine WR.seq ?_
  refine WR.region rfl ?_
  refine S.box hS rfl rfl rfl ?_
  intro b2 w2 hS2; clear hS
  refine S.box hS2 rfl rfl rfl ?_
  intro b3 w3 hS3; clear hS2
  refine S.alloc hS3 ti23 rfl rfl ?_
  intro b4 w4 hS4; clear hS3
  refine WS.done ?_
  refine WR.seq ?_
  refine WR.region rfl ?_
  refine S.fieldB Try.underlying23 rfl ti2 rfl rfl rfl rfl ?_
  refine S.loadB (i := 2) hS4 rfl Try.underlying2 rfl rfl rfl rfl ?_
  refine S.fieldB Try.underlying23 rfl ti2 rfl rfl rfl rfl ?_
  refine S.loadB (i := 1) hS4 rfl Try.underlying2 rfl rfl rfl rfl ?_
  refine S.max2 rfl rfl rfl ?_
  refine S.fieldB Try.underlying23 rfl ti2 rfl rfl rfl rfl ?_
  refine S.loadB (i := 2) hS4 rfl Try.underlying2 rfl rfl rfl rfl ?_
  refine S.fieldB Try.underlying23 rfl ti2 rfl rfl rfl rfl ?_
  refine S.loadB (i := 1) hS4 rfl Try.underlying2 rfl rfl rfl rfl ?_
  refine S.min2 rfl rfl rfl ?_
  refine S.buildStruct [.int _ _, .int _ _] [(0, 1), (1, 1)] Try.underlying23 ti23 rfl (by kernel_rfl) rfl rfl rfl rfl rfl rfl ?_
  refine S.storeB (i := 0) hS4 rfl ti23 rfl rfl rfl rfl rfl rfl rfl rfl ?_
  intro w2001 hS2001; clear hS4
  refine WS.done ?_
  refine WR.ret (retC rfl rfl (run_loadBA (i := 0) hS2001 rfl Try.underlying23 rfl ti23 rfl rfl) ?_)
  exact ⟨rfl, hS2001.drop.drop.drop⟩

set_option maxRecDepth 100000 in
set_option maxHeartbeats 4000000 in
theorem g_hull1 {w : World} {R : Kn} {L : List HP} (hS : St w R (L)) {a b c d : Int} :
    Fn Try.prog 37 #[.agg #[.int .i64 a, .int .i64 b], .agg #[.int .i64 c, .int .i64 d]] w (fun v w' => v = .agg #[.int .i64 (hullF (a, b) (c, d)).1, .int .i64 (hullF (a, b) (c, d)).2] ∧ St w' R L) := by
  refine Fn.intro (n := 16) Try.func37 rfl rfl rfl ?_
  refine WR.seq ?_
  refine WR.region rfl ?_
  refine S.box hS rfl rfl rfl ?_
  intro b2 w2 hS2; clear hS
  refine S.box hS2 rfl rfl rfl ?_
  intro b3 w3 hS3; clear hS2
  refine S.alloc hS3 ti23 rfl rfl ?_
  intro b4 w4 hS4; clear hS3
  refine WS.done ?_
  refine WR.seq ?_
  refine WR.region rfl ?_
  refine S.fieldB Try.underlying23 rfl ti2 rfl rfl rfl rfl ?_
  refine S.loadB (i := 2) hS4 rfl Try.underlying2 rfl rfl rfl rfl ?_
  refine S.fieldB Try.underlying23 rfl ti2 rfl rfl rfl rfl ?_
  refine S.loadB (i := 1) hS4 rfl Try.underlying2 rfl rfl rfl rfl ?_
  refine S.min2 rfl rfl rfl ?_
  refine S.fieldB Try.underlying23 rfl ti2 rfl rfl rfl rfl ?_
  refine S.loadB (i := 2) hS4 rfl Try.underlying2 rfl rfl rfl rfl ?_
  refine S.fieldB Try.underlying23 rfl ti2 rfl rfl rfl rfl ?_
  refine S.loadB (i := 1) hS4 rfl Try.underlying2 rfl rfl rfl rfl ?_
  refine S.max2 rfl rfl rfl ?_
  refine S.buildStruct [.int _ _, .int _ _] [(0, 1), (1, 1)] Try.underlying23 ti23 rfl (by kernel_rfl) rfl rfl rfl rfl rfl rfl ?_
  refine S.storeB (i := 0) hS4 rfl ti23 rfl rfl rfl rfl rfl rfl rfl rfl ?_
  intro w2001 hS2001; clear hS4
  refine WS.done ?_
  refine WR.ret (retC rfl rfl (run_loadBA (i := 0) hS2001 rfl Try.underlying23 rfl ti23 rfl rfl) ?_)
  exact ⟨rfl, hS2001.drop.drop.drop⟩

set_option maxRecDepth 100000 in
set_option maxHeartbeats 4000000 in
theorem g_fold {w : World} {R : Kn} {L : List HP} (hS : St w R (L)) {a b : Int} {v1 : Value} {xs : List (Int × Int)} {cf : FuncId} {F : Int × Int → Int × Int → Int × Int} (h1 : Ro R gpE 2 v1 xs) (hm : xs.length ≤ 1000000) (hE : Ent Try.prog cf) (hcf : ∀ {w : World} {R : Kn} {L : List HP} (hS : St w R L) {a b c d : Int}, Fn Try.prog cf #[.agg #[.int .i64 a, .int .i64 b], .agg #[.int .i64 c, .int .i64 d]] w (fun v w' => v = .agg #[.int .i64 (F (a, b) (c, d)).1, .int .i64 (F (a, b) (c, d)).2] ∧ St w' R L)) :
    Fn Try.prog 35 #[.agg #[.int .i64 a, .int .i64 b], v1, .func (.func cf) #[] #[]] w (fun v w' => ∃ p q e, v = .tuple #[.agg #[.int .i64 p, .int .i64 q], .int .i64 e] ∧ FoldP F (a, b) xs p q e ∧ St w' R L) := by
  obtain ⟨a1, c1, rfl, hl1⟩ := h1.len
  refine Fn.intro (n := 41) Try.func35 rfl rfl rfl ?_
  refine WR.seq ?_
  refine WR.region rfl ?_
  refine S.box hS rfl rfl rfl ?_
  intro b3 w3 hS3; clear hS
  refine S.alloc hS3 ti23 rfl rfl ?_
  intro b6 w6 hS6; clear hS3
  refine S.assignC rfl ?_
  refine WS.done ?_
  refine WR.seq ?_
  refine WR.seq ?_
  refine WR.region rfl ?_
  refine S.moveT rfl ?_
  refine S.lenSl Try.underlying43 rfl rfl ?_
  refine S.moveC rfl ?_
  refine WS.done ?_
  refine WR.block ?_
  refine WR.loopE (fun rq mm rr wr => ∃ (i : Nat), mm = xs.length - i ∧ (i ≤ xs.length ∧ (∀ x ∈ xs.take i, x.1 ≤ x.2)) ∧ rr 14 = .int .i64 (i : Int) ∧ Agr [1, 2, 3, 6, 12, 13] rr rq ∧ St wr R (blk b6 (.cells (#[.int .i64 0, .int .i64 0]) 23 (0, 0)) :: blk b3 (.cells (#[.int .i64 a, .int .i64 b]) 23 (0, 0)) :: L)) ⟨0, rfl, (by exact ⟨by omega, fun x h => by simp at h⟩), rfl, ⟨rfl, rfl, rfl, rfl, rfl, rfl, trivial⟩, hS6⟩ ?_
  rintro mm rr w1001 ⟨i, hm1001, ⟨hi, hall⟩, hr1001_14, hA1001, hS1001⟩
  obtain ⟨rr, rfl⟩ := agrBack hA1001
  clear hA1001
  obtain ⟨rr, rfl⟩ := back1 (r := rr) hr1001_14
  clear hr1001_14
  refine WR.seq ?_
  refine WR.region rfl ?_
  refine S.lss rfl rfl rfl ?_
  refine WS.done ?_
  refine WR.seq ?_
  refine WR.condD rfl (fun c15 => ?_) (fun c15 => ?_)
  ·
    skip
    refine WR.skip ?_
    refine WR.seq ?_
    refine WR.block ?_
    refine WR.seq ?_
    refine WR.region rfl ?_
    refine S.indexRo h1 Try.underlying43 ti23 rfl rfl (by omega) rfl ?_
    intro ad16 u16 hu16 hl16 hc16
    refine S.loadRoA hS1001 hc16 hl16 Try.underlying23 rfl ti23 rfl rfl ?_
    refine S.alloc hS1001 ti23 rfl rfl ?_
    intro b9 w9 hS9; clear hS1001
    refine S.storeB (i := 0) hS9 rfl ti23 rfl rfl rfl rfl rfl rfl rfl rfl ?_
    intro w2001 hS2001; clear hS9
    refine WS.done ?_
    refine WR.seq ?_
    refine WR.region rfl ?_
    refine S.loadBA (i := 0) hS2001 rfl Try.underlying23 rfl ti23 rfl rfl rfl rfl ?_
    refine S.call ent14 rfl (g_right hS2001 ) rfl ?_
    rintro _ w19 ⟨rfl, hS19⟩
    clear hS2001
    refine S.notD rfl rfl ?_
    refine WS.done ?_
    refine WR.condD rfl (fun c20 => ?_) (fun c20 => ?_)
    ·
      skip
      refine WR.seq ?_
      refine WR.region rfl ?_
      refine S.buildZero ti23 rfl (by kernel_rfl) rfl ?_
      refine S.storeB (i := 1) hS19 rfl ti23 rfl rfl rfl rfl rfl rfl rfl rfl ?_
      intro w2002 hS2002; clear hS19
      refine S.assignC rfl ?_
      refine WS.done ?_
      refine WR.ret (retC1 rfl rfl (run_loadBA (i := 1) hS2002 rfl Try.underlying23 rfl ti23 rfl rfl) rfl ?_)
      exact ⟨_, _, _, rfl, .inl ⟨fun h => absurd (h _ (List.mem_of_getElem? hu16)) (by omega), rfl, rfl, rfl⟩, hS2002.drop.drop.drop⟩
    ·
      skip
      refine WR.skip ?_
      refine WR.region rfl ?_
      first
        | refine S.addN rfl rfl rfl (by omega) ?_
        | refine S.add rfl rfl rfl ?_
      refine S.moveT rfl ?_
      refine WS.done ?_
      exact ⟨_, (by omega), ⟨i + 1, rfl, (by exact ⟨by omega, all_take hall (getZ hu16) (by omega)⟩), rfl, ⟨rfl, rfl, rfl, rfl, rfl, rfl, trivial⟩, hS19.drop⟩⟩
  ·
    skip
    refine WR.exit ?_
    refine WR.seq ?_
    refine WR.seq ?_
    refine WR.region rfl ?_
    refine S.moveT rfl ?_
    refine S.lenSl Try.underlying43 rfl rfl ?_
    refine S.moveC rfl ?_
    refine WS.done ?_
    refine WR.block ?_
    refine WR.loopE (fun rq mm rr wr => ∃ (i : Nat) (c d : Int), mm = xs.length - i ∧ (i ≤ xs.length ∧ (xs.take i).foldl F (a, b) = (c, d)) ∧ rr 25 = .int .i64 (i : Int) ∧ Agr [2, 3, 6, 23, 24] rr rq ∧ St wr R (blk b6 (.cells (#[.int .i64 0, .int .i64 0]) 23 (0, 0)) :: blk b3 (.cells (#[.int .i64 c, .int .i64 d]) 23 (0, 0)) :: L)) ⟨0, a, b, rfl, (by exact ⟨by omega, rfl⟩), rfl, ⟨rfl, rfl, rfl, rfl, rfl, trivial⟩, hS1001⟩ ?_
    rintro mm rr w1002 ⟨i, c, d, hm1002, ⟨hi, hfd⟩, hr1002_25, hA1002, hS1002⟩
    obtain ⟨rr, rfl⟩ := agrBack hA1002
    clear hA1002
    obtain ⟨rr, rfl⟩ := back1 (r := rr) hr1002_25
    clear hr1002_25
    have hall2 : ∀ x ∈ xs, x.1 ≤ x.2 := by rwa [List.take_of_length_le (by omega)] at hall
    refine WR.seq ?_
    refine WR.region rfl ?_
    refine S.lss rfl rfl rfl ?_
    refine WS.done ?_
    refine WR.seq ?_
    refine WR.condD rfl (fun c26 => ?_) (fun c26 => ?_)
    ·
      skip
      refine WR.skip ?_
      refine WR.seq ?_
      refine WR.block ?_
      refine WR.seq ?_
      refine WR.region rfl ?_
      refine S.indexRo h1 Try.underlying43 ti23 rfl rfl (by omega) rfl ?_
      intro ad27 u27 hu27 hl27 hc27
      refine S.loadRoA hS1002 hc27 hl27 Try.underlying23 rfl ti23 rfl rfl ?_
      refine S.alloc hS1002 ti23 rfl rfl ?_
      intro b11 w11 hS11; clear hS1002
      refine S.storeB (i := 0) hS11 rfl ti23 rfl rfl rfl rfl rfl rfl rfl rfl ?_
      intro w2003 hS2003; clear hS11
      refine WS.done ?_
      refine WR.region rfl ?_
      refine S.moveT rfl ?_
      refine S.loadBA (i := 2) hS2003 rfl Try.underlying23 rfl ti23 rfl rfl rfl rfl ?_
      refine S.loadBA (i := 0) hS2003 rfl Try.underlying23 rfl ti23 rfl rfl rfl rfl ?_
      refine S.callV hE rfl rfl (hcf hS2003 ) rfl ?_
      rintro _ w32 ⟨rfl, hS32⟩
      clear hS2003
      refine S.storeB (i := 2) hS32 rfl ti23 rfl rfl rfl rfl rfl rfl rfl rfl ?_
      intro w2004 hS2004; clear hS32
      refine WS.done ?_
      refine WR.region rfl ?_
      first
        | refine S.addN rfl rfl rfl (by omega) ?_
        | refine S.add rfl rfl rfl ?_
      refine S.moveT rfl ?_
      refine WS.done ?_
      exact ⟨_, (by omega), ⟨i + 1, _, _, rfl, (by exact ⟨by omega, by rw [fold_succ (getZ hu27), hfd]⟩), rfl, ⟨rfl, rfl, rfl, rfl, rfl, trivial⟩, hS2004.drop⟩⟩
    ·
      skip
      refine WR.exit ?_
      refine WR.seq ?_
      refine WR.region rfl ?_
      refine S.fieldB Try.underlying23 rfl ti2 rfl rfl rfl rfl ?_
      refine S.loadB (i := 1) hS1002 rfl Try.underlying2 rfl rfl rfl rfl ?_
      refine S.fieldB Try.underlying23 rfl ti2 rfl rfl rfl rfl ?_
      refine S.loadB (i := 1) hS1002 rfl Try.underlying2 rfl rfl rfl rfl ?_
      refine S.call ent26 rfl (g_ends hS1002 ) rfl ?_
      rintro _ w38 ⟨p38, q38, e38, rfl, hG38, hS38⟩
      clear hS1002
      refine S.extract rfl rfl rfl ?_
      refine S.extract rfl rfl rfl ?_
      refine S.storeB (i := 0) hS38 rfl ti23 rfl rfl rfl rfl rfl rfl rfl rfl ?_
      intro w2005 hS2005; clear hS38
      refine S.assignT rfl ?_
      refine WS.done ?_
      refine WR.ret (retC1 rfl rfl (run_loadBA (i := 0) hS2005 rfl Try.underlying23 rfl ti23 rfl rfl) rfl ?_)
      rw [List.take_of_length_le (by omega)] at hfd
      exact ⟨_, _, _, rfl, by unfold FoldP; rw [hfd]; exact Or.inr (by rcases hG38 with h | h | h <;> first | (exfalso; omega) | exact Or.inl ⟨hall2, by simpa using h.2.2.1, h.2.2.2⟩ | exact Or.inr ⟨hall2, by simpa using h.2.2.1, h.2.2.2⟩), hS2005.drop.drop⟩

set_option maxRecDepth 100000 in
set_option maxHeartbeats 4000000 in
theorem g_meet {w : World} {R : Kn} {L : List HP} (hS : St w R (L)) {v1 : Value} {xs : List (Int × Int)} (h1 : Ro R gpE 2 v1 xs) (hm : xs.length ≤ 1000000) :
    Fn Try.prog 20 #[v1] w (fun v w' => ∃ p q e, v = .tuple #[.agg #[.int .i64 p, .int .i64 q], .int .i64 e] ∧ FoldP meetF (-9223372036854775808, 9223372036854775807) xs p q e ∧ St w' R L) := by
  refine Fn.intro (n := 9) Try.func20 rfl rfl rfl ?_
  refine WR.seq ?_
  refine WR.region rfl ?_
  refine S.alloc hS ti23 rfl rfl ?_
  intro b2 w2 hS2; clear hS
  refine S.assignC rfl ?_
  refine WS.done ?_
  refine WR.seq ?_
  refine WR.region rfl ?_
  refine S.buildStruct [.int _ _, .int _ _] [(0, 1), (1, 1)] Try.underlying23 ti23 rfl (by kernel_rfl) rfl rfl rfl rfl rfl rfl ?_
  refine S.moveT rfl ?_
  refine S.call ent35 rfl (g_fold hS2 (by exact h1) (by exact hm) (by exact ent36) (g_meet1)) rfl ?_
  rintro _ w6 ⟨p6, q6, e6, rfl, hG6, hS6⟩
  clear hS2
  refine S.extract rfl rfl rfl ?_
  refine S.extract rfl rfl rfl ?_
  refine S.storeB (i := 0) hS6 rfl ti23 rfl rfl rfl rfl rfl rfl rfl rfl ?_
  intro w2001 hS2001; clear hS6
  refine S.assignT rfl ?_
  refine WS.done ?_
  refine WR.ret (retC1 rfl rfl (run_loadBA (i := 0) hS2001 rfl Try.underlying23 rfl ti23 rfl rfl) rfl ?_)
  exact ⟨_, _, _, rfl, hG6, hS2001.drop⟩

set_option maxRecDepth 100000 in
set_option maxHeartbeats 4000000 in
theorem g_hull {w : World} {R : Kn} {L : List HP} (hS : St w R (L)) {v1 : Value} {xs : List (Int × Int)} (h1 : Ro R gpE 2 v1 xs) (hm : xs.length ≤ 1000000) :
    Fn Try.prog 21 #[v1] w (fun v w' => ∃ p q e, v = .tuple #[.agg #[.int .i64 p, .int .i64 q], .int .i64 e] ∧ FoldP hullF (9223372036854775807, -9223372036854775808) xs p q e ∧ St w' R L) := by
  refine Fn.intro (n := 9) Try.func21 rfl rfl rfl ?_
  refine WR.seq ?_
  refine WR.region rfl ?_
  refine S.alloc hS ti23 rfl rfl ?_
  intro b2 w2 hS2; clear hS
  refine S.assignC rfl ?_
  refine WS.done ?_
  refine WR.seq ?_
  refine WR.region rfl ?_
  refine S.buildStruct [.int _ _, .int _ _] [(0, 1), (1, 1)] Try.underlying23 ti23 rfl (by kernel_rfl) rfl rfl rfl rfl rfl rfl ?_
  refine S.moveT rfl ?_
  refine S.call ent35 rfl (g_fold hS2 (by exact h1) (by exact hm) (by exact ent37) (g_hull1)) rfl ?_
  rintro _ w6 ⟨p6, q6, e6, rfl, hG6, hS6⟩
  clear hS2
  refine S.extract rfl rfl rfl ?_
  refine S.extract rfl rfl rfl ?_
  refine S.storeB (i := 0) hS6 rfl ti23 rfl rfl rfl rfl rfl rfl rfl rfl ?_
  intro w2001 hS2001; clear hS6
  refine S.assignT rfl ?_
  refine WS.done ?_
  refine WR.ret (retC1 rfl rfl (run_loadBA (i := 0) hS2001 rfl Try.underlying23 rfl ti23 rfl rfl) rfl ?_)
  exact ⟨_, _, _, rfl, hG6, hS2001.drop⟩


end Go.Proofs.Ytogciedegglogaa.B

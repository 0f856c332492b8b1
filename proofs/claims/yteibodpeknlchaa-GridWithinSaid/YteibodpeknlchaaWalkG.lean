import Derived.Test.YteibodpeknlchaaWalkP
namespace Go.Proofs.Yteibodpeknlchaa.B
open Go.Proofs Go.RowKit
set_option linter.unusedVariables false
set_option linter.unusedSimpArgs false
set_option maxRecDepth 100000 in
set_option maxHeartbeats 4000000 in
theorem gr_right {w : World} {R : Kn} {L : List HP}  (hS : St w R (L)) {w0 p m : Int} :
    Fn Try.prog 23 #[.agg #[.int .i64 w0, .int .i64 p, .int .i64 m]] w (fun v w' => v = .bool (decide (GR w0 p m)) ∧ St w' R L) := by
  have hg := gri_cases w0 p m
  refine Fn.intro (n := 31) Try.func23 rfl rfl rfl ?_
  refine WR.seq ?_
  refine WR.region rfl ?_
  refine S.box hS rfl rfl rfl ?_
  intro b1 w1 hS1; clear hS
  refine S.assignC rfl ?_
  refine WS.done ?_
  refine WR.seq ?_
  refine WR.region rfl ?_
  refine S.fieldB Try.underlying23 rfl ti2 rfl rfl rfl rfl ?_
  refine S.loadB (i := 0) hS1 rfl Try.underlying2 rfl rfl rfl rfl ?_
  refine S.geq rfl rfl rfl ?_
  refine S.moveT rfl ?_
  refine S.splitD (d := 6) rfl (fun c6 => ?_) (fun c6 => ?_)
  ·
    skip
    refine S.fieldB Try.underlying23 rfl ti2 rfl rfl rfl rfl ?_
    refine S.loadB (i := 0) hS1 rfl Try.underlying2 rfl rfl rfl rfl ?_
    refine S.leq rfl rfl rfl ?_
    refine S.pickT rfl rfl ?_
    refine S.moveT rfl ?_
    refine S.splitD (d := 11) rfl (fun c11 => ?_) (fun c11 => ?_)
    ·
      skip
      refine S.fieldB Try.underlying23 rfl ti3 rfl rfl rfl rfl ?_
      refine S.loadB (i := 0) hS1 rfl Try.underlying3 rfl rfl rfl rfl ?_
      refine S.geq rfl rfl rfl ?_
      refine S.pickT rfl rfl ?_
      refine S.moveT rfl ?_
      refine S.splitD (d := 16) rfl (fun c16 => ?_) (fun c16 => ?_)
      ·
        skip
        refine S.fieldB Try.underlying23 rfl ti3 rfl rfl rfl rfl ?_
        refine S.loadB (i := 0) hS1 rfl Try.underlying3 rfl rfl rfl rfl ?_
        refine S.leq rfl rfl rfl ?_
        refine S.pickT rfl rfl ?_
        refine S.moveT rfl ?_
        refine S.splitD (d := 21) rfl (fun c21 => ?_) (fun c21 => ?_)
        ·
          skip
          refine S.fieldB Try.underlying23 rfl ti2 rfl rfl rfl rfl ?_
          refine S.loadB (i := 0) hS1 rfl Try.underlying2 rfl rfl rfl rfl ?_
          refine S.geq rfl rfl rfl ?_
          refine S.pickT rfl rfl ?_
          refine S.moveT rfl ?_
          refine S.splitD (d := 26) rfl (fun c26 => ?_) (fun c26 => ?_)
          ·
            skip
            refine S.fieldB Try.underlying23 rfl ti2 rfl rfl rfl rfl ?_
            refine S.loadB (i := 0) hS1 rfl Try.underlying2 rfl rfl rfl rfl ?_
            refine S.leq rfl rfl rfl ?_
            refine S.pickT rfl rfl ?_
            refine S.assignT rfl ?_
            refine WS.done ?_
            refine WR.ret (ret1 rfl rfl ?_)
            exact ⟨congrArg Value.bool (by first | exact decide_eq_decide.2 (by omega) | exact (decide_eq_false (by omega)).symm | exact (decide_eq_true (by omega)).symm), hS1.drop⟩
          ·
            skip
            refine S.off rfl ?_
            refine S.off rfl ?_
            refine S.off rfl ?_
            refine S.pickFC rfl rfl ?_
            refine S.assignT rfl ?_
            refine WS.done ?_
            refine WR.ret (ret1 rfl rfl ?_)
            exact ⟨congrArg Value.bool (by first | exact decide_eq_decide.2 (by omega) | exact (decide_eq_false (by omega)).symm | exact (decide_eq_true (by omega)).symm), hS1.drop⟩
        ·
          skip
          refine S.off rfl ?_
          refine S.off rfl ?_
          refine S.off rfl ?_
          refine S.pickFC rfl rfl ?_
          refine S.moveT rfl ?_
          refine S.off rfl ?_
          refine S.off rfl ?_
          refine S.off rfl ?_
          refine S.pickFC rfl rfl ?_
          refine S.assignT rfl ?_
          refine WS.done ?_
          refine WR.ret (ret1 rfl rfl ?_)
          exact ⟨congrArg Value.bool (by first | exact decide_eq_decide.2 (by omega) | exact (decide_eq_false (by omega)).symm | exact (decide_eq_true (by omega)).symm), hS1.drop⟩
      ·
        skip
        refine S.off rfl ?_
        refine S.off rfl ?_
        refine S.off rfl ?_
        refine S.pickFC rfl rfl ?_
        refine S.moveT rfl ?_
        refine S.off rfl ?_
        refine S.off rfl ?_
        refine S.off rfl ?_
        refine S.pickFC rfl rfl ?_
        refine S.moveT rfl ?_
        refine S.off rfl ?_
        refine S.off rfl ?_
        refine S.off rfl ?_
        refine S.pickFC rfl rfl ?_
        refine S.assignT rfl ?_
        refine WS.done ?_
        refine WR.ret (ret1 rfl rfl ?_)
        exact ⟨congrArg Value.bool (by first | exact decide_eq_decide.2 (by omega) | exact (decide_eq_false (by omega)).symm | exact (decide_eq_true (by omega)).symm), hS1.drop⟩
    ·
      skip
      refine S.off rfl ?_
      refine S.off rfl ?_
      refine S.off rfl ?_
      refine S.pickFC rfl rfl ?_
      refine S.moveT rfl ?_
      refine S.off rfl ?_
      refine S.off rfl ?_
      refine S.off rfl ?_
      refine S.pickFC rfl rfl ?_
      refine S.moveT rfl ?_
      refine S.off rfl ?_
      refine S.off rfl ?_
      refine S.off rfl ?_
      refine S.pickFC rfl rfl ?_
      refine S.moveT rfl ?_
      refine S.off rfl ?_
      refine S.off rfl ?_
      refine S.off rfl ?_
      refine S.pickFC rfl rfl ?_
      refine S.assignT rfl ?_
      refine WS.done ?_
      refine WR.ret (ret1 rfl rfl ?_)
      exact ⟨congrArg Value.bool (by first | exact decide_eq_decide.2 (by omega) | exact (decide_eq_false (by omega)).symm | exact (decide_eq_true (by omega)).symm), hS1.drop⟩
  ·
    skip
    refine S.off rfl ?_
    refine S.off rfl ?_
    refine S.off rfl ?_
    refine S.pickFC rfl rfl ?_
    refine S.moveT rfl ?_
    refine S.off rfl ?_
    refine S.off rfl ?_
    refine S.off rfl ?_
    refine S.pickFC rfl rfl ?_
    refine S.moveT rfl ?_
    refine S.off rfl ?_
    refine S.off rfl ?_
    refine S.off rfl ?_
    refine S.pickFC rfl rfl ?_
    refine S.moveT rfl ?_
    refine S.off rfl ?_
    refine S.off rfl ?_
    refine S.off rfl ?_
    refine S.pickFC rfl rfl ?_
    refine S.moveT rfl ?_
    refine S.off rfl ?_
    refine S.off rfl ?_
    refine S.off rfl ?_
    refine S.pickFC rfl rfl ?_
    refine S.assignT rfl ?_
    refine WS.done ?_
    refine WR.ret (ret1 rfl rfl ?_)
    exact ⟨congrArg Value.bool (by first | exact decide_eq_decide.2 (by omega) | exact (decide_eq_false (by omega)).symm | exact (decide_eq_true (by omega)).symm), hS1.drop⟩

set_option maxRecDepth 100000 in
set_option maxHeartbeats 4000000 in
theorem gr_new {w : World} {R : Kn} {L : List HP}  (hS : St w R (L)) {w0 p m : Int} :
    Fn Try.prog 8 #[.int .i64 w0, .int .i64 p, .int .i64 m] w (fun v w' => ∃ a b c e, v = .tuple #[.agg #[.int .i64 a, .int .i64 b, .int .i64 c], .int .i64 e] ∧ ((GR w0 p m ∧ a = w0 ∧ b = p ∧ c = m ∧ e = 0) ∨ (¬ GR w0 p m ∧ a = 0 ∧ b = 0 ∧ c = 0 ∧ e = 11)) ∧ St w' R L) := by
  refine Fn.intro (n := 18) Try.func8 rfl rfl rfl ?_
  refine WR.seq ?_
  refine WR.region rfl ?_
  refine S.alloc hS ti23 rfl rfl ?_
  intro b6 w6 hS6; clear hS
  refine S.assignC rfl ?_
  refine WS.done ?_
  refine WR.seq ?_
  refine WR.region rfl ?_
  refine S.moveT rfl ?_
  refine S.moveT rfl ?_
  refine S.moveT rfl ?_
  refine S.buildStruct [.int _ _, .int _ _, .int _ _] [(0, 1), (1, 1), (2, 1)] Try.underlying23 ti23 rfl (by kernel_rfl) rfl rfl rfl rfl rfl rfl ?_
  refine S.alloc hS6 ti23 rfl rfl ?_
  intro b8 w8 hS8; clear hS6
  refine S.storeB (i := 0) hS8 rfl ti23 rfl rfl rfl rfl rfl rfl rfl rfl ?_
  intro w2001 hS2001; clear hS8
  refine WS.done ?_
  refine WR.seq ?_
  refine WR.seq ?_
  refine WR.region rfl ?_
  refine S.loadBA (i := 0) hS2001 rfl Try.underlying23 rfl ti23 rfl rfl rfl rfl ?_
  refine S.call ent23 rfl (gr_right hS2001 ) rfl ?_
  rintro _ w14 ⟨rfl, hS14⟩
  clear hS2001
  refine S.notD rfl rfl ?_
  refine WS.done ?_
  refine WR.condD rfl (fun c15 => ?_) (fun c15 => ?_)
  ·
    skip
    refine WR.seq ?_
    refine WR.region rfl ?_
    refine S.buildZero ti23 rfl (by kernel_rfl) rfl ?_
    refine S.storeB (i := 1) hS14 rfl ti23 rfl rfl rfl rfl rfl rfl rfl rfl ?_
    intro w2002 hS2002; clear hS14
    refine S.assignC rfl ?_
    refine WS.done ?_
    refine WR.ret (retC1 rfl rfl (run_loadBA (i := 1) hS2002 rfl Try.underlying23 rfl ti23 rfl rfl) rfl ?_)
    exact ⟨_, _, _, _, rfl, .inr ⟨c15, rfl, rfl, rfl, rfl⟩, hS2002.drop.drop⟩
  ·
    skip
    refine WR.skip ?_
    refine WR.seq ?_
    refine WR.region rfl ?_
    refine S.loadBA (i := 0) hS14 rfl Try.underlying23 rfl ti23 rfl rfl rfl rfl ?_
    refine S.storeB (i := 1) hS14 rfl ti23 rfl rfl rfl rfl rfl rfl rfl rfl ?_
    intro w2003 hS2003; clear hS14
    refine S.assignC rfl ?_
    refine WS.done ?_
    refine WR.ret (retC1 rfl rfl (run_loadBA (i := 1) hS2003 rfl Try.underlying23 rfl ti23 rfl rfl) rfl ?_)
    exact ⟨_, _, _, _, rfl, .inl ⟨Decidable.not_not.1 c15, rfl, rfl, rfl, rfl⟩, hS2003.drop.drop⟩

set_option maxRecDepth 100000 in
set_option maxHeartbeats 4000000 in
theorem gr_window {w : World} {R : Kn} {L : List HP}  (hS : St w R (L)) {w0 p m t : Int} (ht : fits t) :
    Fn Try.prog 16 #[.agg #[.int .i64 w0, .int .i64 p, .int .i64 m], .int .i64 t] w (fun v w' => v = .int .i64 (win w0 p m t) ∧ St w' R L) := by
  have hg := gri_cases w0 p m
  have hwc := win_cases w0 p m t
  refine Fn.intro (n := 18) Try.func16 rfl rfl rfl ?_
  refine WR.seq ?_
  refine WR.region rfl ?_
  refine S.box hS rfl rfl rfl ?_
  intro b2 w2 hS2; clear hS
  refine S.assignC rfl ?_
  refine WS.done ?_
  refine WR.seq ?_
  refine WR.seq ?_
  refine WR.region rfl ?_
  refine S.loadBA (i := 0) hS2 rfl Try.underlying23 rfl ti23 rfl rfl rfl rfl ?_
  refine S.call ent23 rfl (gr_right hS2 ) rfl ?_
  rintro _ w8 ⟨rfl, hS8⟩
  clear hS2
  refine S.notD rfl rfl ?_
  refine WS.done ?_
  refine WR.condD rfl (fun c9 => ?_) (fun c9 => ?_)
  ·
    skip
    refine WR.seq ?_
    refine WR.region rfl ?_
    refine S.assignC rfl ?_
    refine WS.done ?_
    refine WR.ret (ret1 rfl rfl ?_)
    exact ⟨congrArg (Value.int .i64) (by omega), hS8.drop⟩
  ·
    skip
    refine WR.skip ?_
    refine WR.seq ?_
    refine WR.region rfl ?_
    refine S.moveT rfl ?_
    refine S.fieldB Try.underlying23 rfl ti2 rfl rfl rfl rfl ?_
    refine S.loadB (i := 0) hS8 rfl Try.underlying2 rfl rfl rfl rfl ?_
    refine S.call ent35 rfl (s_ratio hS8 (by exact ht) (by decide) (by unfold fits; omega)) rfl ?_
    rintro _ w14 ⟨rfl, hS14⟩
    clear hS8
    refine S.as (d := 14) rfl ((ratio_one (up := false) (by omega)).trans (told_div (by omega) ht)) ?_
    refine S.moveT rfl ?_
    refine S.extract rfl rfl rfl ?_
    refine S.extract rfl rfl rfl ?_
    refine S.assignT rfl ?_
    refine S.assignT rfl ?_
    refine WS.done ?_
    refine WR.seq ?_
    refine WR.region rfl ?_
    refine S.moveT rfl ?_
    refine S.assignT rfl ?_
    refine WS.done ?_
    refine WR.ret (ret1 rfl rfl ?_)
    exact ⟨congrArg (Value.int .i64) (by omega), hS14.drop⟩

set_option maxRecDepth 100000 in
set_option maxHeartbeats 4000000 in
theorem gr_span {w : World} {R : Kn} {L : List HP}  (hS : St w R (L)) {w0 p m k : Int} (hw : fits w0) (hk : fits k) :
    Fn Try.prog 11 #[.agg #[.int .i64 w0, .int .i64 p, .int .i64 m], .int .i64 k] w (fun v w' => ∃ lo hi e, v = .tuple #[.agg #[.int .i64 lo, .int .i64 hi], .int .i64 e] ∧ SpanP w0 p m k lo hi e ∧ St w' R L) := by
  have hg := gri_cases w0 p m
  have hww := id hw
  unfold fits at hww
  refine Fn.intro (n := 39) Try.func11 rfl rfl rfl ?_
  refine WR.seq ?_
  refine WR.region rfl ?_
  refine S.box hS rfl rfl rfl ?_
  intro b2 w2 hS2; clear hS
  refine S.alloc hS2 ti25 rfl rfl ?_
  intro b4 w4 hS4; clear hS2
  refine S.assignC rfl ?_
  refine WS.done ?_
  refine WR.seq ?_
  refine WR.seq ?_
  refine WR.region rfl ?_
  refine S.loadBA (i := 1) hS4 rfl Try.underlying23 rfl ti23 rfl rfl rfl rfl ?_
  refine S.call ent23 rfl (gr_right hS4 ) rfl ?_
  rintro _ w11 ⟨rfl, hS11⟩
  clear hS4
  refine S.notD rfl rfl ?_
  refine WS.done ?_
  refine WR.condD rfl (fun c12 => ?_) (fun c12 => ?_)
  ·
    skip
    refine WR.seq ?_
    refine WR.region rfl ?_
    refine S.buildZero ti25 rfl (by kernel_rfl) rfl ?_
    refine S.storeB (i := 0) hS11 rfl ti25 rfl rfl rfl rfl rfl rfl rfl rfl ?_
    intro w2001 hS2001; clear hS11
    refine S.assignC rfl ?_
    refine WS.done ?_
    refine WR.ret (retC1 rfl rfl (run_loadBA (i := 0) hS2001 rfl Try.underlying25 rfl ti25 rfl rfl) rfl ?_)
    exact ⟨_, _, _, rfl, .inl ⟨c12, rfl, rfl, rfl⟩, hS2001.drop.drop⟩
  ·
    skip
    refine WR.skip ?_
    refine WR.seq ?_
    refine WR.region rfl ?_
    refine S.moveT rfl ?_
    refine S.fieldB Try.underlying23 rfl ti2 rfl rfl rfl rfl ?_
    refine S.loadB (i := 1) hS11 rfl Try.underlying2 rfl rfl rfl rfl ?_
    refine S.call ent24 rfl (s_mul hS11 (by exact hk) (by exact hw)) rfl ?_
    rintro _ w18 ⟨rfl, hS18⟩
    clear hS11
    obtain ⟨p18, e18, hv18, hF18⟩ := told_cases (k * w0)
    refine S.as (d := 18) rfl hv18 ?_
    refine S.moveT rfl ?_
    refine S.extract rfl rfl rfl ?_
    refine S.extract rfl rfl rfl ?_
    refine S.assignT rfl ?_
    refine S.assignT rfl ?_
    refine WS.done ?_
    refine WR.seq ?_
    refine WR.region rfl ?_
    refine S.moveT rfl ?_
    refine S.fieldB Try.underlying23 rfl ti2 rfl rfl rfl rfl ?_
    refine S.loadB (i := 1) hS18 rfl Try.underlying2 rfl rfl rfl rfl ?_
    first
      | refine S.subN rfl rfl rfl (by omega) ?_
      | refine S.sub rfl rfl rfl ?_
    refine S.call ent25 rfl (s_add hS18 (by unfold fits; omega) (by unfold fits; omega)) rfl ?_
    rintro _ w26 ⟨rfl, hS26⟩
    clear hS18
    obtain ⟨p26, e26, hv26, hF26⟩ := told_cases (p18 + (w0 - 1))
    refine S.as (d := 26) rfl hv26 ?_
    refine S.moveT rfl ?_
    refine S.extract rfl rfl rfl ?_
    refine S.extract rfl rfl rfl ?_
    refine S.assignT rfl ?_
    refine S.assignT rfl ?_
    refine WS.done ?_
    refine WR.seq ?_
    refine WR.seq ?_
    refine WR.region rfl ?_
    refine S.moveT rfl ?_
    refine S.neq rfl rfl rfl ?_
    refine S.moveT rfl ?_
    refine S.splitD (d := 31) rfl (fun c31 => ?_) (fun c31 => ?_)
    ·
      skip
      refine S.off rfl ?_
      refine S.off rfl ?_
      refine S.pickTC rfl rfl ?_
      refine WS.done ?_
      refine WR.condT rfl ?_
      refine WR.seq ?_
      refine WR.region rfl ?_
      refine S.buildZero ti25 rfl (by kernel_rfl) rfl ?_
      refine S.storeB (i := 0) hS26 rfl ti25 rfl rfl rfl rfl rfl rfl rfl rfl ?_
      intro w2002 hS2002; clear hS26
      refine S.assignC rfl ?_
      refine WS.done ?_
      refine WR.ret (retC1 rfl rfl (run_loadBA (i := 0) hS2002 rfl Try.underlying25 rfl ti25 rfl rfl) rfl ?_)
      first | exact ⟨_, _, _, rfl, .inr (.inl ⟨Decidable.not_not.1 c12, fun h => by unfold fits at h; omega, rfl, rfl, rfl⟩), hS2002.drop.drop⟩ | exact ⟨_, _, _, rfl, .inr (.inr ⟨Decidable.not_not.1 c12, by unfold fits; omega, by omega, by omega, rfl⟩), hS2002.drop.drop⟩
    ·
      skip
      refine S.moveT rfl ?_
      refine S.neq rfl rfl rfl ?_
      refine S.pickF rfl rfl ?_
      refine WS.done ?_
      refine WR.condD rfl (fun c34 => ?_) (fun c34 => ?_)
      ·
        skip
        refine WR.seq ?_
        refine WR.region rfl ?_
        refine S.buildZero ti25 rfl (by kernel_rfl) rfl ?_
        refine S.storeB (i := 0) hS26 rfl ti25 rfl rfl rfl rfl rfl rfl rfl rfl ?_
        intro w2003 hS2003; clear hS26
        refine S.assignC rfl ?_
        refine WS.done ?_
        refine WR.ret (retC1 rfl rfl (run_loadBA (i := 0) hS2003 rfl Try.underlying25 rfl ti25 rfl rfl) rfl ?_)
        first | exact ⟨_, _, _, rfl, .inr (.inl ⟨Decidable.not_not.1 c12, fun h => by unfold fits at h; omega, rfl, rfl, rfl⟩), hS2003.drop.drop⟩ | exact ⟨_, _, _, rfl, .inr (.inr ⟨Decidable.not_not.1 c12, by unfold fits; omega, by omega, by omega, rfl⟩), hS2003.drop.drop⟩
      ·
        skip
        refine WR.skip ?_
        refine WR.seq ?_
        refine WR.region rfl ?_
        refine S.moveT rfl ?_
        refine S.moveT rfl ?_
        refine S.buildStruct [.int _ _, .int _ _] [(0, 1), (1, 1)] Try.underlying25 ti25 rfl (by kernel_rfl) rfl rfl rfl rfl rfl rfl ?_
        refine S.storeB (i := 0) hS26 rfl ti25 rfl rfl rfl rfl rfl rfl rfl rfl ?_
        intro w2004 hS2004; clear hS26
        refine S.assignC rfl ?_
        refine WS.done ?_
        refine WR.ret (retC1 rfl rfl (run_loadBA (i := 0) hS2004 rfl Try.underlying25 rfl ti25 rfl rfl) rfl ?_)
        first | exact ⟨_, _, _, rfl, .inr (.inl ⟨Decidable.not_not.1 c12, fun h => by unfold fits at h; omega, rfl, rfl, rfl⟩), hS2004.drop.drop⟩ | exact ⟨_, _, _, rfl, .inr (.inr ⟨Decidable.not_not.1 c12, by unfold fits; omega, by omega, by omega, rfl⟩), hS2004.drop.drop⟩

set_option maxRecDepth 100000 in
set_option maxHeartbeats 4000000 in
theorem gr_check {w : World} {R : Kn} {L : List HP}  (hS : St w R (L)) {w0 p m a b : Int} :
    Fn Try.prog 34 #[.agg #[.int .i64 w0, .int .i64 p, .int .i64 m], .agg #[.int .i64 a, .int .i64 b]] w (fun v w' => v = .int .i64 (mtE w0 p m a b) ∧ St w' R L) := by
  have hmt := mt_at w0 p m a b
  refine Fn.intro (n := 13) Try.func34 rfl rfl rfl ?_
  refine WR.seq ?_
  refine WR.region rfl ?_
  refine S.box hS rfl rfl rfl ?_
  intro b2 w2 hS2; clear hS
  refine S.box hS2 rfl rfl rfl ?_
  intro b3 w3 hS3; clear hS2
  refine S.assignC rfl ?_
  refine WS.done ?_
  refine WR.seq ?_
  refine WR.block ?_
  refine WR.seq ?_
  refine WR.region rfl ?_
  refine S.loadBA (i := 1) hS3 rfl Try.underlying23 rfl ti23 rfl rfl rfl rfl ?_
  refine S.call ent23 rfl (gr_right hS3 ) rfl ?_
  rintro _ w7 ⟨rfl, hS7⟩
  clear hS3
  refine S.notD rfl rfl ?_
  refine S.assignT rfl ?_
  refine WS.done ?_
  refine WR.condD rfl (fun c5 => ?_) (fun c5 => ?_)
  ·
    skip
    refine WR.seq ?_
    refine WR.region rfl ?_
    refine S.assignC rfl ?_
    refine WS.done ?_
    refine WR.ret (ret1 rfl rfl ?_)
    exact ⟨congrArg (Value.int .i64) (by omega), hS7.drop.drop⟩
  ·
    skip
    refine WR.seq ?_
    refine WR.region rfl ?_
    refine S.loadBA (i := 0) hS7 rfl Try.underlying25 rfl ti25 rfl rfl rfl rfl ?_
    refine S.call ent37 rfl (g_right hS7 ) rfl ?_
    rintro _ w11 ⟨rfl, hS11⟩
    clear hS7
    refine S.notD rfl rfl ?_
    refine S.assignT rfl ?_
    refine WS.done ?_
    refine WR.condD rfl (fun c9 => ?_) (fun c9 => ?_)
    ·
      skip
      refine WR.seq ?_
      refine WR.region rfl ?_
      refine S.assignC rfl ?_
      refine WS.done ?_
      refine WR.ret (ret1 rfl rfl ?_)
      exact ⟨congrArg (Value.int .i64) (by omega), hS11.drop.drop⟩
    ·
      skip
      refine WR.skip ?_
      refine WR.seq ?_
      refine WR.region rfl ?_
      refine S.assignC rfl ?_
      refine WS.done ?_
      refine WR.ret (ret1 rfl rfl ?_)
      exact ⟨congrArg (Value.int .i64) (by omega), hS11.drop.drop⟩

set_option maxRecDepth 100000 in
set_option maxHeartbeats 4000000 in
theorem gr_meets {w : World} {R : Kn} {L : List HP}  (hS : St w R (L)) {w0 p m a b : Int} (ha : fits a) (hb : fits b) :
    Fn Try.prog 15 #[.agg #[.int .i64 w0, .int .i64 p, .int .i64 m], .agg #[.int .i64 a, .int .i64 b]] w (fun v w' => v = .tuple #[.int .i64 (mtV w0 p m a b a), .int .i64 (mtV w0 p m a b b), .int .i64 (mtE w0 p m a b)] ∧ St w' R L) := by
  have hmt := mt_at w0 p m a b
  have hwa := win_cases w0 p m a
  have hwb := win_cases w0 p m b
  refine Fn.intro (n := 22) Try.func15 rfl rfl rfl ?_
  refine WR.seq ?_
  refine WR.region rfl ?_
  refine S.box hS rfl rfl rfl ?_
  intro b2 w2 hS2; clear hS
  refine S.box hS2 rfl rfl rfl ?_
  intro b3 w3 hS3; clear hS2
  refine S.assignC rfl ?_
  refine S.assignC rfl ?_
  refine S.assignC rfl ?_
  refine WS.done ?_
  refine WR.seq ?_
  refine WR.seq ?_
  refine WR.region rfl ?_
  refine S.loadBA (i := 1) hS3 rfl Try.underlying23 rfl ti23 rfl rfl rfl rfl ?_
  refine S.loadBA (i := 0) hS3 rfl Try.underlying25 rfl ti25 rfl rfl rfl rfl ?_
  refine S.call ent34 rfl (gr_check hS3 ) rfl ?_
  rintro _ w10 ⟨rfl, hS10⟩
  clear hS3
  refine S.assignT rfl ?_
  refine WS.done ?_
  refine WR.seq ?_
  refine WR.region rfl ?_
  refine S.moveT rfl ?_
  refine S.neq rfl rfl rfl ?_
  refine WS.done ?_
  refine WR.condD rfl (fun c12 => ?_) (fun c12 => ?_)
  ·
    skip
    refine WR.seq ?_
    refine WR.region rfl ?_
    refine S.moveT rfl ?_
    refine S.assignC rfl ?_
    refine S.assignC rfl ?_
    refine S.assignT rfl ?_
    refine WS.done ?_
    refine WR.ret (ret3 rfl rfl rfl rfl ?_)
    exact ⟨tup3i (by omega) (by omega) (by omega), hS10.drop.drop⟩
  ·
    skip
    refine WR.skip ?_
    refine WR.seq ?_
    refine WR.regionQ mixed hS10 (by kernel_rfl) rfl ?_
    refine Q.loadBA (i := 1) rfl Try.underlying23 rfl ti23 rfl rfl rfl rfl ?_
    refine Q.fieldB Try.underlying25 rfl ti2 rfl rfl rfl rfl ?_
    refine Q.loadB (i := 0) rfl Try.underlying2 rfl rfl rfl rfl ?_
    refine Q.call ent16 rfl (fun w hQ => gr_window hQ (by exact ha)) rfl ?_
    refine Q.loadBA (i := 1) rfl Try.underlying23 rfl ti23 rfl rfl rfl rfl ?_
    refine Q.fieldB Try.underlying25 rfl ti2 rfl rfl rfl rfl ?_
    refine Q.loadB (i := 0) rfl Try.underlying2 rfl rfl rfl rfl ?_
    refine Q.call ent16 rfl (fun w hQ => gr_window hQ (by exact hb)) rfl ?_
    refine Q.assignT rfl ?_
    refine Q.assignT rfl ?_
    refine Q.assignC rfl ?_
    refine WQ.done ?_
    intro w5001 hS5001
    clear hS10
    refine WR.ret (ret3 rfl rfl rfl rfl ?_)
    exact ⟨tup3i (by omega) (by omega) (by omega), hS5001.drop.drop⟩

set_option maxRecDepth 100000 in
set_option maxHeartbeats 4000000 in
theorem gr_pick {w : World} {R : Kn} {L : List HP}  (hS : St w R (L)) {w0 p m a b : Int} (ha : fits a) (hb : fits b) :
    Fn Try.prog 13 #[.agg #[.int .i64 w0, .int .i64 p, .int .i64 m], .agg #[.int .i64 a, .int .i64 b]] w (fun v w' => v = .tuple #[.int .i64 (pkV w0 p m a b), .int .i64 (pkE w0 p m a b)] ∧ St w' R L) := by
  have hg := gri_cases w0 p m
  have hpk := pk_cases w0 p m a b
  have hmt := mt_at w0 p m a b
  have hwd := wd_cases a b
  have hmf : fits (md a b) := by have := md_cases a b; unfold fits at *; omega
  have hwm := win_cases w0 p m (md a b)
  refine Fn.intro (n := 43) Try.func13 rfl rfl rfl ?_
  refine WR.seq ?_
  refine WR.region rfl ?_
  refine S.box hS rfl rfl rfl ?_
  intro b2 w2 hS2; clear hS
  refine S.box hS2 rfl rfl rfl ?_
  intro b3 w3 hS3; clear hS2
  refine S.assignC rfl ?_
  refine S.assignC rfl ?_
  refine WS.done ?_
  refine WR.seq ?_
  refine WR.region rfl ?_
  refine S.loadBA (i := 1) hS3 rfl Try.underlying23 rfl ti23 rfl rfl rfl rfl ?_
  refine S.loadBA (i := 0) hS3 rfl Try.underlying25 rfl ti25 rfl rfl rfl rfl ?_
  refine S.call ent15 rfl (gr_meets hS3 (by exact ha) (by exact hb)) rfl ?_
  rintro _ w12 ⟨rfl, hS12⟩
  clear hS3
  refine S.moveT rfl ?_
  refine S.extract rfl rfl rfl ?_
  refine S.extract rfl rfl rfl ?_
  refine S.extract rfl rfl rfl ?_
  refine S.assignT rfl ?_
  refine S.assignT rfl ?_
  refine S.assignT rfl ?_
  refine WS.done ?_
  refine WR.seq ?_
  refine WR.seq ?_
  refine WR.region rfl ?_
  refine S.moveT rfl ?_
  refine S.neq rfl rfl rfl ?_
  refine WS.done ?_
  refine WR.condD rfl (fun c17 => ?_) (fun c17 => ?_)
  ·
    skip
    refine WR.seq ?_
    refine WR.region rfl ?_
    refine S.moveT rfl ?_
    refine S.assignC rfl ?_
    refine S.assignT rfl ?_
    refine WS.done ?_
    refine WR.ret (ret2 rfl rfl rfl ?_)
    exact ⟨tup2 (congrArg (Value.int .i64) (by omega)) (congrArg (Value.int .i64) (by omega)), hS12.drop.drop⟩
  ·
    skip
    refine WR.skip ?_
    refine WR.seq ?_
    refine WR.seq ?_
    refine WR.regionQ mixed hS12 (by kernel_rfl) rfl ?_
    refine Q.loadBA (i := 0) rfl Try.underlying25 rfl ti25 rfl rfl rfl rfl ?_
    refine Q.call ent20 rfl (fun w hQ => g_width hQ (by exact ha) (by exact hb)) rfl ?_
    refine Q.fieldB Try.underlying23 rfl ti2 rfl rfl rfl rfl ?_
    refine Q.loadB (i := 1) rfl Try.underlying2 rfl rfl rfl rfl ?_
    first
      | refine Q.convN Try.underlying2 Try.underlying47 rfl rfl (wrap_u64 (by omega) (by omega)) ?_
      | refine Q.conv Try.underlying2 Try.underlying47 rfl rfl ?_
    refine Q.gtr rfl rfl rfl ?_
    refine WQ.done ?_
    intro w5001 hS5001
    clear hS12
    refine WR.condD rfl (fun c24 => ?_) (fun c24 => ?_)
    ·
      skip
      refine WR.seq ?_
      refine WR.region rfl ?_
      refine S.assignC rfl ?_
      refine S.assignC rfl ?_
      refine WS.done ?_
      refine WR.ret (ret2 rfl rfl rfl ?_)
      exact ⟨tup2 (congrArg (Value.int .i64) (by omega)) (congrArg (Value.int .i64) (by omega)), hS5001.drop.drop⟩
    ·
      skip
      refine WR.skip ?_
      refine WR.seq ?_
      refine WR.seq ?_
      refine WR.region rfl ?_
      refine S.fieldB Try.underlying23 rfl ti3 rfl rfl rfl rfl ?_
      refine S.loadB (i := 1) hS5001 rfl Try.underlying3 rfl rfl rfl rfl ?_
      refine WS.done ?_
      refine WR.block ?_
      refine WR.seq ?_
      refine WR.region rfl ?_
      refine S.eql rfl rfl rfl ?_
      refine S.assignT rfl ?_
      refine WS.done ?_
      refine WR.condD rfl (fun c27 => ?_) (fun c27 => ?_)
      ·
        skip
        refine WR.seq ?_
        refine WR.region rfl ?_
        refine S.moveT rfl ?_
        refine S.assignT rfl ?_
        refine S.assignC rfl ?_
        refine WS.done ?_
        refine WR.ret (ret2 rfl rfl rfl ?_)
        exact ⟨tup2 (congrArg (Value.int .i64) (by omega)) (congrArg (Value.int .i64) (by omega)), hS5001.drop.drop⟩
      ·
        skip
        refine WR.seq ?_
        refine WR.region rfl ?_
        refine S.eql rfl rfl rfl ?_
        refine S.assignT rfl ?_
        refine WS.done ?_
        refine WR.condD rfl (fun c30 => ?_) (fun c30 => ?_)
        ·
          skip
          refine WR.seq ?_
          refine WR.region rfl ?_
          refine S.moveT rfl ?_
          refine S.assignT rfl ?_
          refine S.assignC rfl ?_
          refine WS.done ?_
          refine WR.ret (ret2 rfl rfl rfl ?_)
          exact ⟨tup2 (congrArg (Value.int .i64) (by omega)) (congrArg (Value.int .i64) (by omega)), hS5001.drop.drop⟩
        ·
          skip
          refine WR.seq ?_
          refine WR.region rfl ?_
          refine S.eql rfl rfl rfl ?_
          refine S.assignT rfl ?_
          refine WS.done ?_
          refine WR.condD rfl (fun c33 => ?_) (fun c33 => ?_)
          ·
            skip
            refine WR.seq ?_
            refine WR.regionQ mixed hS5001 (by kernel_rfl) rfl ?_
            refine Q.loadBA (i := 1) rfl Try.underlying23 rfl ti23 rfl rfl rfl rfl ?_
            refine Q.loadBA (i := 0) rfl Try.underlying25 rfl ti25 rfl rfl rfl rfl ?_
            refine Q.call ent30 rfl (fun w hQ => g_mid hQ (by exact ha) (by exact hb)) rfl ?_
            refine Q.call ent16 rfl (fun w hQ => gr_window hQ (by exact hmf)) rfl ?_
            refine Q.assignT rfl ?_
            refine Q.assignC rfl ?_
            refine WQ.done ?_
            intro w5002 hS5002
            clear hS5001
            refine WR.ret (ret2 rfl rfl rfl ?_)
            exact ⟨tup2 (congrArg (Value.int .i64) (by omega)) (congrArg (Value.int .i64) (by omega)), hS5002.drop.drop⟩
          ·
            skip
            refine WR.skip ?_
            refine WR.seq ?_
            refine WR.seq ?_
            refine WR.region rfl ?_
            refine S.moveT rfl ?_
            refine S.moveT rfl ?_
            refine S.neq rfl rfl rfl ?_
            refine WS.done ?_
            refine WR.condD rfl (fun c41 => ?_) (fun c41 => ?_)
            ·
              skip
              refine WR.seq ?_
              refine WR.region rfl ?_
              refine S.assignC rfl ?_
              refine S.assignC rfl ?_
              refine WS.done ?_
              refine WR.ret (ret2 rfl rfl rfl ?_)
              exact ⟨tup2 (congrArg (Value.int .i64) (by omega)) (congrArg (Value.int .i64) (by omega)), hS5001.drop.drop⟩
            ·
              skip
              refine WR.skip ?_
              refine WR.seq ?_
              refine WR.region rfl ?_
              refine S.moveT rfl ?_
              refine S.assignT rfl ?_
              refine S.assignC rfl ?_
              refine WS.done ?_
              refine WR.ret (ret2 rfl rfl rfl ?_)
              exact ⟨tup2 (congrArg (Value.int .i64) (by omega)) (congrArg (Value.int .i64) (by omega)), hS5001.drop.drop⟩

set_option maxRecDepth 100000 in
set_option maxHeartbeats 4000000 in
theorem gr_certain {w : World} {R : Kn} {L : List HP}  (hS : St w R (L)) {w0 p m a b : Int} (ha : fits a) (hb : fits b) :
    Fn Try.prog 18 #[.agg #[.int .i64 w0, .int .i64 p, .int .i64 m], .agg #[.int .i64 a, .int .i64 b]] w (fun v w' => v = .bool (decide (GR w0 p m ∧ a ≤ b ∧ a / w0 = b / w0)) ∧ St w' R L) := by
  have hmt := mt_at w0 p m a b
  refine Fn.intro (n := 22) Try.func18 rfl rfl rfl ?_
  refine WR.seq ?_
  refine WR.region rfl ?_
  refine S.box hS rfl rfl rfl ?_
  intro b2 w2 hS2; clear hS
  refine S.box hS2 rfl rfl rfl ?_
  intro b3 w3 hS3; clear hS2
  refine S.assignC rfl ?_
  refine WS.done ?_
  refine WR.seq ?_
  refine WR.region rfl ?_
  refine S.loadBA (i := 1) hS3 rfl Try.underlying23 rfl ti23 rfl rfl rfl rfl ?_
  refine S.loadBA (i := 0) hS3 rfl Try.underlying25 rfl ti25 rfl rfl rfl rfl ?_
  refine S.call ent15 rfl (gr_meets hS3 (by exact ha) (by exact hb)) rfl ?_
  rintro _ w11 ⟨rfl, hS11⟩
  clear hS3
  refine S.moveT rfl ?_
  refine S.extract rfl rfl rfl ?_
  refine S.extract rfl rfl rfl ?_
  refine S.extract rfl rfl rfl ?_
  refine S.assignT rfl ?_
  refine S.assignT rfl ?_
  refine S.assignT rfl ?_
  refine WS.done ?_
  refine WR.seq ?_
  refine WR.region rfl ?_
  refine S.moveT rfl ?_
  refine S.eql rfl rfl rfl ?_
  refine S.moveT rfl ?_
  refine S.splitD (d := 17) rfl (fun c17 => ?_) (fun c17 => ?_)
  ·
    skip
    refine S.moveT rfl ?_
    refine S.moveT rfl ?_
    refine S.eql rfl rfl rfl ?_
    refine S.pickT rfl rfl ?_
    refine S.assignT rfl ?_
    refine WS.done ?_
    refine WR.ret (ret1 rfl rfl ?_)
    exact ⟨congrArg Value.bool (by first | exact decide_eq_decide.2 (by omega) | exact (decide_eq_false (by omega)).symm | exact (decide_eq_true (by omega)).symm), hS11.drop.drop⟩
  ·
    skip
    refine S.off rfl ?_
    refine S.off rfl ?_
    refine S.off rfl ?_
    refine S.pickFC rfl rfl ?_
    refine S.assignT rfl ?_
    refine WS.done ?_
    refine WR.ret (ret1 rfl rfl ?_)
    exact ⟨congrArg Value.bool (by first | exact decide_eq_decide.2 (by omega) | exact (decide_eq_false (by omega)).symm | exact (decide_eq_true (by omega)).symm), hS11.drop.drop⟩


end Go.Proofs.Yteibodpeknlchaa.B

import Derived.Test.YtiffedgmageiaaaTypes
import Derived.Test.YtiffedgmageiaaaLib
namespace Go.Proofs.Ytiffedgmageiaaa.B
open Go.Proofs Go.RowKit
set_option linter.unusedVariables false
set_option linter.unusedSimpArgs false
set_option maxRecDepth 100000 in
set_option maxHeartbeats 4000000 in
theorem r_new {w : World} {R : Kn} {L : List HP}  (hS : St w R (L)) {mo : Int} :
    Fn Try.prog 7 #[.int .i64 mo] w (fun v w' => (¬ (1 ≤ mo ∧ mo ≤ 64) ∧ v = .tuple #[.pointer none, .int .i64 11] ∧ St w' R L) ∨ ((1 ≤ mo ∧ mo ≤ 64) ∧ ∃ bh bm, v = .tuple #[.pointer (some ⟨bh, 0, none⟩), .int .i64 0] ∧ St w' R (blk bh (.cells (#[.int .i64 mo, .map (some bm)]) 58 (0, 0)) :: Mp Try.prog 2 bm (mE entV []) :: L))) := by
  refine Fn.intro (n := 14) Try.func7 rfl rfl rfl ?_
  refine WR.seq ?_
  refine WR.region rfl ?_
  refine S.assignC rfl ?_
  refine S.assignC rfl ?_
  refine WS.done ?_
  refine WR.seq ?_
  refine WR.seq ?_
  refine WR.region rfl ?_
  refine S.moveT rfl ?_
  refine S.lss rfl rfl rfl ?_
  refine S.moveT rfl ?_
  refine S.splitD (d := 6) rfl (fun c6 => ?_) (fun c6 => ?_)
  ·
    skip
    refine S.off rfl ?_
    refine S.off rfl ?_
    refine S.pickTC rfl rfl ?_
    refine WS.done ?_
    refine WR.condT rfl ?_
    refine WR.seq ?_
    refine WR.region rfl ?_
    refine S.assignC rfl ?_
    refine S.assignC rfl ?_
    refine WS.done ?_
    refine WR.ret (ret2 rfl rfl rfl ?_)
    exact .inl ⟨by omega, rfl, hS⟩
  ·
    skip
    refine S.moveT rfl ?_
    refine S.gtr rfl rfl rfl ?_
    refine S.pickF rfl rfl ?_
    refine WS.done ?_
    refine WR.condD rfl (fun c9 => ?_) (fun c9 => ?_)
    ·
      skip
      refine WR.seq ?_
      refine WR.region rfl ?_
      refine S.assignC rfl ?_
      refine S.assignC rfl ?_
      refine WS.done ?_
      refine WR.ret (ret2 rfl rfl rfl ?_)
      exact .inl ⟨by omega, rfl, hS⟩
    ·
      skip
      refine WR.skip ?_
      refine WR.seq ?_
      refine WR.region rfl ?_
      refine S.moveT rfl ?_
      refine S.makeMap hS Try.underlying56 rfl ?_
      intro b11 w11 hS11; clear hS
      refine S.buildStruct [.int _ _, .map _] [(0, 1), (1, 1)] Try.underlying58 ti58 rfl (by kernel_rfl) rfl rfl rfl rfl rfl rfl ?_
      refine S.box hS11 rfl rfl rfl ?_
      intro b13 w13 hS13; clear hS11
      refine S.assignT rfl ?_
      refine S.assignC rfl ?_
      refine WS.done ?_
      refine WR.ret (ret2 rfl rfl rfl ?_)
      exact .inr ⟨by omega, _, _, rfl, hS13⟩

set_option maxRecDepth 100000 in
set_option maxHeartbeats 4000000 in
theorem s_new {w : World} {R : Kn} {L : List HP}  (hS : St w R (L)) {mo : Int} :
    Fn Try.prog 8 #[.int .i64 mo] w (fun v w' => (¬ (1 ≤ mo ∧ mo ≤ 64) ∧ v = .tuple #[.pointer none, .int .i64 11] ∧ St w' R L) ∨ ((1 ≤ mo ∧ mo ≤ 64) ∧ ∃ bs, v = .tuple #[.pointer (some ⟨bs, 0, none⟩), .int .i64 0] ∧ St w' R (blk bs (.cells (tabC [.int .i64 mo] e3C (tabR [])) 61 (0, 0)) :: L))) := by
  refine Fn.intro (n := 13) Try.func8 rfl rfl rfl ?_
  refine WR.seq ?_
  refine WR.region rfl ?_
  refine S.assignC rfl ?_
  refine S.assignC rfl ?_
  refine WS.done ?_
  refine WR.seq ?_
  refine WR.seq ?_
  refine WR.region rfl ?_
  refine S.moveT rfl ?_
  refine S.lss rfl rfl rfl ?_
  refine S.moveT rfl ?_
  refine S.splitD (d := 6) rfl (fun c6 => ?_) (fun c6 => ?_)
  ·
    skip
    refine S.off rfl ?_
    refine S.off rfl ?_
    refine S.pickTC rfl rfl ?_
    refine WS.done ?_
    refine WR.condT rfl ?_
    refine WR.seq ?_
    refine WR.region rfl ?_
    refine S.assignC rfl ?_
    refine S.assignC rfl ?_
    refine WS.done ?_
    refine WR.ret (ret2 rfl rfl rfl ?_)
    exact .inl ⟨by omega, rfl, hS⟩
  ·
    skip
    refine S.moveT rfl ?_
    refine S.gtr rfl rfl rfl ?_
    refine S.pickF rfl rfl ?_
    refine WS.done ?_
    refine WR.condD rfl (fun c9 => ?_) (fun c9 => ?_)
    ·
      skip
      refine WR.seq ?_
      refine WR.region rfl ?_
      refine S.assignC rfl ?_
      refine S.assignC rfl ?_
      refine WS.done ?_
      refine WR.ret (ret2 rfl rfl rfl ?_)
      exact .inl ⟨by omega, rfl, hS⟩
    ·
      skip
      refine WR.skip ?_
      refine WR.seq ?_
      refine WR.region rfl ?_
      refine S.moveT rfl ?_
      refine S.buildK (v := .agg (tabC [.int .i64 mo] e3C (tabR []))) rfl (by kernel_rfl) rfl ?_
      refine S.box hS rfl rfl rfl ?_
      intro b12 w12 hS12; clear hS
      refine S.assignT rfl ?_
      refine S.assignC rfl ?_
      refine WS.done ?_
      refine WR.ret (ret2 rfl rfl rfl ?_)
      exact .inr ⟨by omega, _, rfl, hS12⟩

set_option maxRecDepth 100000 in
set_option maxHeartbeats 4000000 in
theorem e_within {w : World} {R : Kn} {L : List HP}  (hS : St w R (L)) {ep bo at_ : Int} :
    Fn Try.prog 27 #[.agg #[.int .i64 ep, .int .i64 bo, .int .i64 at_]] w (fun v w' => v = .bool (decide (1 ≤ bo ∧ bo ≤ 1099511627776 ∧ 0 ≤ at_ ∧ at_ ≤ 4611686018427387903)) ∧ St w' R L) := by
  refine Fn.intro (n := 21) Try.func27 rfl rfl rfl ?_
  refine WR.seq ?_
  refine WR.region rfl ?_
  refine S.box hS rfl rfl rfl ?_
  intro b1 w1 hS1; clear hS
  refine S.assignC rfl ?_
  refine WS.done ?_
  refine WR.seq ?_
  refine WR.region rfl ?_
  refine S.fieldB Try.underlying34 rfl ti2 rfl rfl rfl rfl ?_
  refine S.loadB (i := 0) hS1 rfl Try.underlying2 rfl rfl rfl rfl ?_
  refine S.geq rfl rfl rfl ?_
  refine S.moveT rfl ?_
  refine S.splitD (d := 6) rfl (fun c6 => ?_) (fun c6 => ?_)
  ·
    skip
    refine S.fieldB Try.underlying34 rfl ti2 rfl rfl rfl rfl ?_
    refine S.loadB (i := 0) hS1 rfl Try.underlying2 rfl rfl rfl rfl ?_
    refine S.leq rfl rfl rfl ?_
    refine S.pickT rfl rfl ?_
    refine S.moveT rfl ?_
    refine S.splitD (d := 11) rfl (fun c11 => ?_) (fun c11 => ?_)
    ·
      skip
      refine S.fieldB Try.underlying34 rfl ti2 rfl rfl rfl rfl ?_
      refine S.loadB (i := 0) hS1 rfl Try.underlying2 rfl rfl rfl rfl ?_
      refine S.geq rfl rfl rfl ?_
      refine S.pickT rfl rfl ?_
      refine S.moveT rfl ?_
      refine S.splitD (d := 16) rfl (fun c16 => ?_) (fun c16 => ?_)
      ·
        skip
        refine S.fieldB Try.underlying34 rfl ti2 rfl rfl rfl rfl ?_
        refine S.loadB (i := 0) hS1 rfl Try.underlying2 rfl rfl rfl rfl ?_
        refine S.leq rfl rfl rfl ?_
        refine S.pickT rfl rfl ?_
        refine S.assignT rfl ?_
        refine WS.done ?_
        refine WR.ret (ret1 rfl rfl ?_)
        exact ⟨congrArg Value.bool (by first | exact decide_eq_decide.2 (by omega) | exact (decide_eq_false (by omega)).symm | exact (decide_eq_true (by omega)).symm), hS1.drop⟩
      ·
        skip
        refine S.off rfl ?_
        refine S.off rfl ?_
        refine S.off rfl ?_
        refine S.pickFC rfl rfl ?_
        refine S.assignT rfl ?_
        refine WS.done ?_
        refine WR.ret (ret1 rfl rfl ?_)
        exact ⟨congrArg Value.bool (by first | exact decide_eq_decide.2 (by omega) | exact (decide_eq_false (by omega)).symm | exact (decide_eq_true (by omega)).symm), hS1.drop⟩
    ·
      skip
      refine S.off rfl ?_
      refine S.off rfl ?_
      refine S.off rfl ?_
      refine S.pickFC rfl rfl ?_
      refine S.moveT rfl ?_
      refine S.off rfl ?_
      refine S.off rfl ?_
      refine S.off rfl ?_
      refine S.pickFC rfl rfl ?_
      refine S.assignT rfl ?_
      refine WS.done ?_
      refine WR.ret (ret1 rfl rfl ?_)
      exact ⟨congrArg Value.bool (by first | exact decide_eq_decide.2 (by omega) | exact (decide_eq_false (by omega)).symm | exact (decide_eq_true (by omega)).symm), hS1.drop⟩
  ·
    skip
    refine S.off rfl ?_
    refine S.off rfl ?_
    refine S.off rfl ?_
    refine S.pickFC rfl rfl ?_
    refine S.moveT rfl ?_
    refine S.off rfl ?_
    refine S.off rfl ?_
    refine S.off rfl ?_
    refine S.pickFC rfl rfl ?_
    refine S.moveT rfl ?_
    refine S.off rfl ?_
    refine S.off rfl ?_
    refine S.off rfl ?_
    refine S.pickFC rfl rfl ?_
    refine S.assignT rfl ?_
    refine WS.done ?_
    refine WR.ret (ret1 rfl rfl ?_)
    exact ⟨congrArg Value.bool (by first | exact decide_eq_decide.2 (by omega) | exact (decide_eq_false (by omega)).symm | exact (decide_eq_true (by omega)).symm), hS1.drop⟩

set_option maxRecDepth 100000 in
set_option maxHeartbeats 4000000 in
theorem r_check {w : World} {R : Kn} {L : List HP} {mo : Int} {m : EM} {bh bm : Nat} (hS : St w R (blk bh (.cells (#[.int .i64 mo, .map (some bm)]) 58 (0, 0)) :: Mp Try.prog 2 bm (mE entV m) :: L)) {a : Int} {ep bo at_ : Int} (hfa : fits a) :
    Fn Try.prog 20 #[.pointer (some ⟨bh, 0, none⟩), .int .i64 a, .agg #[.int .i64 ep, .int .i64 bo, .int .i64 at_]] w (fun v w' => v = .int .i64 (chk mo m a bo at_) ∧ St w' R (blk bh (.cells (#[.int .i64 mo, .map (some bm)]) 58 (0, 0)) :: Mp Try.prog 2 bm (mE entV m) :: L)) := by
  have hfa2 := id hfa
  unfold fits at hfa2
  refine Fn.intro (n := 45) Try.func20 rfl rfl rfl ?_
  refine WR.seq ?_
  refine WR.region rfl ?_
  refine S.box hS rfl rfl rfl ?_
  intro b5 w5 hS5; clear hS
  refine S.assignC rfl ?_
  refine WS.done ?_
  refine WR.seq ?_
  refine WR.region rfl ?_
  refine S.moveT rfl ?_
  refine S.nilCheck rfl rfl ?_
  refine S.fieldB Try.underlying58 rfl ti56 rfl rfl rfl rfl ?_
  refine S.loadB (i := 1) hS5 rfl Try.underlying56 rfl rfl rfl rfl ?_
  refine S.moveT rfl ?_
  refine S.lookOk (d0 := zE) (i := 2) hS5 rfl Try.underlying56 Try.underlying2 ti34 rfl rfl (by omega) rfl ?_
  refine S.moveT rfl ?_
  refine S.extract rfl rfl rfl ?_
  refine S.extract rfl rfl rfl ?_
  refine S.alloc hS5 ti34 rfl rfl ?_
  intro b7 w7 hS7; clear hS5
  refine S.storeB (i := 0) hS7 rfl ti34 rfl rfl rfl rfl rfl rfl rfl rfl ?_
  intro w2001 hS2001; clear hS7
  refine S.assignT rfl ?_
  refine WS.done ?_
  refine WR.seq ?_
  refine WR.block ?_
  refine WR.seq ?_
  refine WR.region rfl ?_
  refine S.moveT rfl ?_
  refine S.lss rfl rfl rfl ?_
  refine S.moveT rfl ?_
  refine S.splitD (d := 21) rfl (fun c21 => ?_) (fun c21 => ?_)
  ·
    skip
    refine S.off rfl ?_
    refine S.off rfl ?_
    refine S.pickTC rfl rfl ?_
    refine S.moveT rfl ?_
    refine S.off rfl ?_
    refine S.off rfl ?_
    refine S.off rfl ?_
    refine S.pickTC rfl rfl ?_
    refine S.assignT rfl ?_
    refine WS.done ?_
    refine WR.condT rfl ?_
    refine WR.seq ?_
    refine WR.region rfl ?_
    refine S.assignC rfl ?_
    refine WS.done ?_
    refine WR.ret (ret1 rfl rfl ?_)
    exact ⟨congrArg (Value.int .i64) (by first | exact (chk_bad (by unfold badE; omega)).symm | exact (chk_ok (by unfold badE; omega) (.inl hk)).symm | exact (chk_full (by unfold badE; omega) hk (by omega)).symm | exact (chk_ok (by unfold badE; omega) (.inr (by omega))).symm), (hS2001.drop.drop)⟩
  ·
    skip
    refine S.moveT rfl ?_
    refine S.geq rfl rfl rfl ?_
    refine S.pickF rfl rfl ?_
    refine S.moveT rfl ?_
    refine S.splitD (d := 25) rfl (fun c25 => ?_) (fun c25 => ?_)
    ·
      skip
      refine S.off rfl ?_
      refine S.off rfl ?_
      refine S.off rfl ?_
      refine S.pickTC rfl rfl ?_
      refine S.assignT rfl ?_
      refine WS.done ?_
      refine WR.condT rfl ?_
      refine WR.seq ?_
      refine WR.region rfl ?_
      refine S.assignC rfl ?_
      refine WS.done ?_
      refine WR.ret (ret1 rfl rfl ?_)
      exact ⟨congrArg (Value.int .i64) (by first | exact (chk_bad (by unfold badE; omega)).symm | exact (chk_ok (by unfold badE; omega) (.inl hk)).symm | exact (chk_full (by unfold badE; omega) hk (by omega)).symm | exact (chk_ok (by unfold badE; omega) (.inr (by omega))).symm), (hS2001.drop.drop)⟩
    ·
      skip
      refine S.loadBA (i := 1) hS2001 rfl Try.underlying34 rfl ti34 rfl rfl rfl rfl ?_
      refine S.call ent27 rfl (e_within hS2001 ) rfl ?_
      rintro _ w27 ⟨rfl, hS27⟩
      clear hS2001
      refine S.notD rfl rfl ?_
      refine S.pickF rfl rfl ?_
      refine S.assignT rfl ?_
      refine WS.done ?_
      refine WR.condD rfl (fun c18 => ?_) (fun c18 => ?_)
      ·
        skip
        refine WR.seq ?_
        refine WR.region rfl ?_
        refine S.assignC rfl ?_
        refine WS.done ?_
        refine WR.ret (ret1 rfl rfl ?_)
        exact ⟨congrArg (Value.int .i64) (by first | exact (chk_bad (by unfold badE; omega)).symm | exact (chk_ok (by unfold badE; omega) (.inl hk)).symm | exact (chk_full (by unfold badE; omega) hk (by omega)).symm | exact (chk_ok (by unfold badE; omega) (.inr (by omega))).symm), (hS27.drop.drop)⟩
      ·
        skip
        refine WR.seq ?_
        rcases Bool.eq_false_or_eq_true ((aget m a).isSome) with hk | hk
        ·
          rw [hk]
          refine WR.regionQ mixed hS27 (by kernel_rfl) rfl ?_
          refine Q.moveT rfl ?_
          refine Q.not rfl rfl ?_
          refine Q.moveT rfl ?_
          refine Q.off rfl ?_
          refine Q.off rfl ?_
          refine Q.off rfl ?_
          refine Q.off rfl ?_
          refine Q.off rfl ?_
          refine Q.off rfl ?_
          refine Q.off rfl ?_
          refine Q.off rfl ?_
          refine Q.off rfl ?_
          refine Q.off rfl ?_
          refine Q.pickFC rfl rfl ?_
          refine Q.assignT rfl ?_
          refine WQ.done ?_
          intro w5002 hS5002
          clear hS27
          refine WR.condF rfl ?_
          refine WR.skip ?_
          refine WR.seq ?_
          refine WR.region rfl ?_
          refine S.assignC rfl ?_
          refine WS.done ?_
          refine WR.ret (ret1 rfl rfl ?_)
          exact ⟨congrArg (Value.int .i64) (by first | exact (chk_bad (by unfold badE; omega)).symm | exact (chk_ok (by unfold badE; omega) (.inl hk)).symm | exact (chk_full (by unfold badE; omega) hk (by omega)).symm | exact (chk_ok (by unfold badE; omega) (.inr (by omega))).symm), (hS5002.drop.drop)⟩
        ·
          rw [hk]
          refine WR.regionQ mixed hS27 (by kernel_rfl) rfl ?_
          refine Q.moveT rfl ?_
          refine Q.not rfl rfl ?_
          refine Q.moveT rfl ?_
          refine Q.moveT rfl ?_
          refine Q.nilCheck rfl rfl ?_
          refine Q.fieldB Try.underlying58 rfl ti56 rfl rfl rfl rfl ?_
          refine Q.loadB (i := 2) rfl Try.underlying56 rfl rfl rfl rfl ?_
          refine Q.mapLen (i := 3) rfl Try.underlying56 rfl rfl ?_
          refine Q.moveT rfl ?_
          refine Q.nilCheck rfl rfl ?_
          refine Q.fieldB Try.underlying58 rfl ti3 rfl rfl rfl rfl ?_
          refine Q.loadB (i := 2) rfl Try.underlying3 rfl rfl rfl rfl ?_
          refine Q.geq rfl rfl rfl ?_
          refine Q.pickT rfl rfl ?_
          refine Q.assignT rfl ?_
          refine WQ.done ?_
          intro w5003 hS5003
          clear hS27
          refine WR.condD rfl (fun c30 => ?_) (fun c30 => ?_)
          ·
            skip
            refine WR.seq ?_
            refine WR.region rfl ?_
            refine S.assignC rfl ?_
            refine WS.done ?_
            refine WR.ret (ret1 rfl rfl ?_)
            exact ⟨congrArg (Value.int .i64) (by first | exact (chk_bad (by unfold badE; omega)).symm | exact (chk_ok (by unfold badE; omega) (.inl hk)).symm | exact (chk_full (by unfold badE; omega) hk (by omega)).symm | exact (chk_ok (by unfold badE; omega) (.inr (by omega))).symm), (hS5003.drop.drop)⟩
          ·
            skip
            refine WR.skip ?_
            refine WR.seq ?_
            refine WR.region rfl ?_
            refine S.assignC rfl ?_
            refine WS.done ?_
            refine WR.ret (ret1 rfl rfl ?_)
            exact ⟨congrArg (Value.int .i64) (by first | exact (chk_bad (by unfold badE; omega)).symm | exact (chk_ok (by unfold badE; omega) (.inl hk)).symm | exact (chk_full (by unfold badE; omega) hk (by omega)).symm | exact (chk_ok (by unfold badE; omega) (.inr (by omega))).symm), (hS5003.drop.drop)⟩

set_option maxRecDepth 100000 in
set_option maxHeartbeats 4000000 in
theorem r_grant {w : World} {R : Kn} {L : List HP} {mo : Int} {m : EM} {bh bm : Nat} (hS : St w R (blk bh (.cells (#[.int .i64 mo, .map (some bm)]) 58 (0, 0)) :: Mp Try.prog 2 bm (mE entV m) :: L)) {a b t : Int} (hfa : fits a) (hfb : fits b) (hft : fits t) (hI : RI mo m) :
    Fn Try.prog 9 #[.pointer (some ⟨bh, 0, none⟩), .int .i64 a, .int .i64 b, .int .i64 t] w (fun v w' => v = .tuple #[entV (grant mo m a b t).1.1, .bool (grant mo m a b t).1.2.1, .int .i64 (grant mo m a b t).1.2.2] ∧ St w' R (blk bh (.cells (#[.int .i64 mo, .map (some bm)]) 58 (0, 0)) :: Mp Try.prog 2 bm (mE entV (grant mo m a b t).2) :: L)) := by
  have hfa2 := id hfa
  unfold fits at hfa2
  have hfb2 := id hfb
  have hft2 := id hft
  unfold fits at hfb2 hft2
  have hln := hI.len
  have hmo := hI.mo0
  refine Fn.intro (n := 59) Try.func9 rfl rfl rfl ?_
  refine WR.seq ?_
  refine WR.region rfl ?_
  refine S.alloc hS ti34 rfl rfl ?_
  intro b8 w8 hS8; clear hS
  refine S.assignC rfl ?_
  refine S.assignC rfl ?_
  refine WS.done ?_
  refine WR.seq ?_
  refine WR.region rfl ?_
  refine S.moveT rfl ?_
  refine S.moveT rfl ?_
  refine S.buildK (v := .agg #[.int .i64 0, .int .i64 b, .int .i64 t]) rfl (by kernel_rfl) rfl ?_
  refine S.alloc hS8 ti34 rfl rfl ?_
  intro b11 w11 hS11; clear hS8
  refine S.storeB (i := 0) hS11 rfl ti34 rfl rfl rfl rfl rfl rfl rfl rfl ?_
  intro w2001 hS2001; clear hS11
  refine WS.done ?_
  refine WR.seq ?_
  refine WR.seq ?_
  refine WR.region rfl ?_
  refine S.moveT rfl ?_
  refine S.moveT rfl ?_
  refine S.loadBA (i := 0) hS2001 rfl Try.underlying34 rfl ti34 rfl rfl rfl rfl ?_
  refine S.call ent20 rfl (r_check ((((hS2001.at_ (i := 1) rfl).at_ (i := 1) rfl).at_ (i := 3) rfl).at_ (i := 3) rfl) (by assumption)) rfl ?_
  rintro _ w20 ⟨rfl, hS20⟩
  clear hS2001
  refine S.assignT rfl ?_
  refine WS.done ?_
  refine WR.seq ?_
  refine WR.region rfl ?_
  refine S.moveT rfl ?_
  refine S.neq rfl rfl rfl ?_
  refine WS.done ?_
  refine WR.condD rfl (fun c22 => ?_) (fun c22 => ?_)
  ·
    skip
    refine WR.seq ?_
    refine WR.region rfl ?_
    refine S.buildZero ti34 rfl (by kernel_rfl) rfl ?_
    refine S.moveT rfl ?_
    refine S.storeB (i := 3) hS20 rfl ti34 rfl rfl rfl rfl rfl rfl rfl rfl ?_
    intro w2002 hS2002; clear hS20
    refine S.assignC rfl ?_
    refine S.assignT rfl ?_
    refine WS.done ?_
    refine WR.ret (retC2 rfl rfl (run_loadBA (i := 3) hS2002 rfl Try.underlying34 rfl ti34 rfl rfl) rfl rfl ?_)
    rw [grant_chk c22]
    exact ⟨rfl, (((((hS2002.at_ (i := 1) rfl).at_ (i := 1) rfl).at_ (i := 3) rfl).at_ (i := 3) rfl).drop.drop)⟩
  ·
    skip
    refine WR.skip ?_
    refine WR.seq ?_
    refine WR.region rfl ?_
    refine S.moveT rfl ?_
    refine S.nilCheck rfl rfl ?_
    refine S.fieldB Try.underlying58 rfl ti56 rfl rfl rfl rfl ?_
    refine S.loadB (i := 0) hS20 rfl Try.underlying56 rfl rfl rfl rfl ?_
    refine S.moveT rfl ?_
    refine S.look (d0 := zE) (i := 1) hS20 rfl Try.underlying56 Try.underlying2 ti34 rfl rfl (by omega) rfl ?_
    refine S.as (d := 30) rfl (v' := entV (oldE m a)) rfl ?_
    have hof := hI.old_fits (a := a)
    refine S.alloc hS20 ti34 rfl rfl ?_
    intro b13 w13 hS13; clear hS20
    refine S.storeB (i := 0) hS13 rfl ti34 rfl rfl rfl rfl rfl rfl rfl rfl ?_
    intro w2003 hS2003; clear hS13
    refine WS.done ?_
    refine WR.seq ?_
    refine WR.block ?_
    refine WR.seq ?_
    refine WR.region rfl ?_
    refine S.fieldB Try.underlying34 rfl ti2 rfl rfl rfl rfl ?_
    refine S.loadB (i := 0) hS2003 rfl Try.underlying2 rfl rfl rfl rfl ?_
    refine S.moveT rfl ?_
    refine S.eql rfl rfl rfl ?_
    refine S.assignT rfl ?_
    refine WS.done ?_
    refine WR.condD rfl (fun c31 => ?_) (fun c31 => ?_)
    ·
      skip
      refine WR.seq ?_
      refine WR.region rfl ?_
      refine S.loadBA (i := 0) hS2003 rfl Try.underlying34 rfl ti34 rfl rfl rfl rfl ?_
      refine S.storeB (i := 4) hS2003 rfl ti34 rfl rfl rfl rfl rfl rfl rfl rfl ?_
      intro w2004 hS2004; clear hS2003
      refine S.assignC rfl ?_
      refine S.assignC rfl ?_
      refine WS.done ?_
      refine WR.ret (retC2 rfl rfl (run_loadBA (i := 4) hS2004 rfl Try.underlying34 rfl ti34 rfl rfl) rfl rfl ?_)
      rw [grant_same (Decidable.not_not.1 c22) c31]
      exact ⟨rfl, ((((((hS2004.at_ (i := 2) rfl).at_ (i := 2) rfl).at_ (i := 4) rfl).at_ (i := 4) rfl).at_ (i := 4) rfl).drop.drop.drop)⟩
    ·
      skip
      refine WR.seq ?_
      refine WR.region rfl ?_
      refine S.fieldB Try.underlying34 rfl ti2 rfl rfl rfl rfl ?_
      refine S.loadB (i := 0) hS2003 rfl Try.underlying2 rfl rfl rfl rfl ?_
      refine S.moveT rfl ?_
      refine S.gtr rfl rfl rfl ?_
      refine S.assignT rfl ?_
      refine WS.done ?_
      refine WR.condD rfl (fun c37 => ?_) (fun c37 => ?_)
      ·
        skip
        refine WR.seq ?_
        refine WR.region rfl ?_
        refine S.buildZero ti34 rfl (by kernel_rfl) rfl ?_
        refine S.storeB (i := 4) hS2003 rfl ti34 rfl rfl rfl rfl rfl rfl rfl rfl ?_
        intro w2005 hS2005; clear hS2003
        refine S.assignC rfl ?_
        refine S.assignC rfl ?_
        refine WS.done ?_
        refine WR.ret (retC2 rfl rfl (run_loadBA (i := 4) hS2005 rfl Try.underlying34 rfl ti34 rfl rfl) rfl rfl ?_)
        rw [grant_old (Decidable.not_not.1 c22) c37]
        exact ⟨rfl, ((((((hS2005.at_ (i := 2) rfl).at_ (i := 2) rfl).at_ (i := 4) rfl).at_ (i := 4) rfl).at_ (i := 4) rfl).drop.drop.drop)⟩
      ·
        skip
        refine WR.seq ?_
        refine WR.region rfl ?_
        refine S.fieldB Try.underlying34 rfl ti2 rfl rfl rfl rfl ?_
        refine S.loadB (i := 0) hS2003 rfl Try.underlying2 rfl rfl rfl rfl ?_
        refine S.eql rfl rfl rfl ?_
        refine S.assignT rfl ?_
        refine WS.done ?_
        refine WR.condD rfl (fun c43 => ?_) (fun c43 => ?_)
        ·
          skip
          refine WR.seq ?_
          refine WR.region rfl ?_
          refine S.buildZero ti34 rfl (by kernel_rfl) rfl ?_
          refine S.storeB (i := 4) hS2003 rfl ti34 rfl rfl rfl rfl rfl rfl rfl rfl ?_
          intro w2006 hS2006; clear hS2003
          refine S.assignC rfl ?_
          refine S.assignC rfl ?_
          refine WS.done ?_
          refine WR.ret (retC2 rfl rfl (run_loadBA (i := 4) hS2006 rfl Try.underlying34 rfl ti34 rfl rfl) rfl rfl ?_)
          rw [grant_long (Decidable.not_not.1 c22) c31 c37 c43]
          exact ⟨rfl, ((((((hS2006.at_ (i := 2) rfl).at_ (i := 2) rfl).at_ (i := 4) rfl).at_ (i := 4) rfl).at_ (i := 4) rfl).drop.drop.drop)⟩
        ·
          skip
          refine WR.skip ?_
          refine WR.seq ?_
          refine WR.region rfl ?_
          refine S.fieldB Try.underlying34 rfl ti2 rfl rfl rfl rfl ?_
          refine S.loadB (i := 0) hS2003 rfl Try.underlying2 rfl rfl rfl rfl ?_
          first
            | refine S.addN rfl rfl rfl (by omega) ?_
            | refine S.add rfl rfl rfl ?_
          refine S.fieldB Try.underlying34 rfl ti2 rfl rfl rfl rfl ?_
          refine S.storeB (i := 3) hS2003 rfl ti2 rfl rfl rfl rfl rfl rfl rfl rfl ?_
          intro w2007 hS2007; clear hS2003
          refine WS.done ?_
          refine WR.seq ?_
          refine WR.regionW (fun j => Nat.beq j 6) 7 rfl mixed hS2007 ?_
          intro w6008 hS6008; clear hS2007; have hC := hS6008
          refine WA.take (fuel := 6) 0 rfl (by kernel_rfl) (by kernel_rfl) (by kernel_rfl) (by kernel_rfl) rfl rfl hC ?_
          refine Q.moveT rfl ?_
          refine WQ.done ?_
          refine WA.take (fuel := 5) 1 rfl (by kernel_rfl) (by kernel_rfl) (by kernel_rfl) (by kernel_rfl) rfl rfl hC ?_
          refine Q.nilCheck rfl rfl ?_
          refine WQ.done ?_
          refine WA.take (fuel := 4) 2 rfl (by kernel_rfl) (by kernel_rfl) (by kernel_rfl) (by kernel_rfl) rfl rfl hC ?_
          refine Q.fieldB Try.underlying58 rfl ti56 rfl rfl rfl rfl ?_
          refine WQ.done ?_
          refine WA.take (fuel := 3) 3 rfl (by kernel_rfl) (by kernel_rfl) (by kernel_rfl) (by kernel_rfl) rfl rfl hC ?_
          refine Q.loadB (i := 1) rfl Try.underlying56 rfl rfl rfl rfl ?_
          refine WQ.done ?_
          refine WA.take (fuel := 2) 4 rfl (by kernel_rfl) (by kernel_rfl) (by kernel_rfl) (by kernel_rfl) rfl rfl hC ?_
          refine Q.moveT rfl ?_
          refine WQ.done ?_
          refine WA.take (fuel := 1) 5 rfl (by kernel_rfl) (by kernel_rfl) (by kernel_rfl) (by kernel_rfl) rfl rfl hC ?_
          refine Q.loadBA (i := 3) rfl Try.underlying34 rfl ti34 rfl rfl rfl rfl ?_
          refine WQ.done ?_
          refine WA.one (fuel := 0) 6 rfl (by kernel_rfl) rfl ?_
          refine S.mapPut (i := 2) (newE m a b t) hS6008 rfl Try.underlying56 Try.underlying2 (by omega) rfl rfl rfl (by omega) rfl ?_
          intro w2009 hS2009; clear hS6008
          refine WS.done ⟨fun h => absurd h (by decide), ?_⟩
          refine WA.done (by kernel_rfl) ?_
          clear hC
          refine WR.seq ?_
          refine WR.region rfl ?_
          refine S.loadBA (i := 3) hS2009 rfl Try.underlying34 rfl ti34 rfl rfl rfl rfl ?_
          refine S.storeB (i := 4) hS2009 rfl ti34 rfl rfl rfl rfl rfl rfl rfl rfl ?_
          intro w2010 hS2010; clear hS2009
          refine S.assignC rfl ?_
          refine S.assignC rfl ?_
          refine WS.done ?_
          refine WR.ret (retC2 rfl rfl (run_loadBA (i := 4) hS2010 rfl Try.underlying34 rfl ti34 rfl rfl) rfl rfl ?_)
          rw [grant_new (Decidable.not_not.1 c22) c31 c37 c43]
          exact ⟨rfl, ((((((hS2010.at_ (i := 2) rfl).at_ (i := 2) rfl).at_ (i := 4) rfl).at_ (i := 4) rfl).at_ (i := 4) rfl).drop.drop.drop)⟩

set_option maxRecDepth 100000 in
set_option maxHeartbeats 4000000 in
theorem r_of {w : World} {R : Kn} {L : List HP} {mo : Int} {m : EM} {bh bm : Nat} (hS : St w R (blk bh (.cells (#[.int .i64 mo, .map (some bm)]) 58 (0, 0)) :: Mp Try.prog 2 bm (mE entV m) :: L)) {a : Int} (hfa : fits a) :
    Fn Try.prog 15 #[.pointer (some ⟨bh, 0, none⟩), .int .i64 a] w (fun v w' => v = .tuple #[entV (oldE m a), .bool (aget m a).isSome] ∧ St w' R (blk bh (.cells (#[.int .i64 mo, .map (some bm)]) 58 (0, 0)) :: Mp Try.prog 2 bm (mE entV m) :: L)) := by
  have hfa2 := id hfa
  unfold fits at hfa2
  refine Fn.intro (n := 19) Try.func15 rfl rfl rfl ?_
  refine WR.seq ?_
  refine WR.region rfl ?_
  refine S.alloc hS ti34 rfl rfl ?_
  intro b4 w4 hS4; clear hS
  refine S.assignC rfl ?_
  refine WS.done ?_
  refine WR.seq ?_
  refine WR.region rfl ?_
  refine S.moveT rfl ?_
  refine S.nilCheck rfl rfl ?_
  refine S.fieldB Try.underlying58 rfl ti56 rfl rfl rfl rfl ?_
  refine S.loadB (i := 1) hS4 rfl Try.underlying56 rfl rfl rfl rfl ?_
  refine S.moveT rfl ?_
  refine S.lookOk (d0 := zE) (i := 2) hS4 rfl Try.underlying56 Try.underlying2 ti34 rfl rfl (by omega) rfl ?_
  refine S.moveT rfl ?_
  refine S.extract rfl rfl rfl ?_
  refine S.extract rfl rfl rfl ?_
  refine S.alloc hS4 ti34 rfl rfl ?_
  intro b6 w6 hS6; clear hS4
  refine S.storeB (i := 0) hS6 rfl ti34 rfl rfl rfl rfl rfl rfl rfl rfl ?_
  intro w2001 hS2001; clear hS6
  refine S.assignT rfl ?_
  refine WS.done ?_
  refine WR.seq ?_
  refine WR.region rfl ?_
  refine S.loadBA (i := 0) hS2001 rfl Try.underlying34 rfl ti34 rfl rfl rfl rfl ?_
  refine S.moveT rfl ?_
  refine S.storeB (i := 1) hS2001 rfl ti34 rfl rfl rfl rfl rfl rfl rfl rfl ?_
  intro w2002 hS2002; clear hS2001
  refine S.assignT rfl ?_
  refine WS.done ?_
  refine WR.ret (retC1 rfl rfl (run_loadBA (i := 1) hS2002 rfl Try.underlying34 rfl ti34 rfl rfl) rfl ?_)
  exact ⟨rfl, (hS2002.drop.drop)⟩

set_option maxRecDepth 100000 in
set_option maxHeartbeats 4000000 in
theorem r_is {w : World} {R : Kn} {L : List HP} {mo : Int} {m : EM} {bh bm : Nat} (hS : St w R (blk bh (.cells (#[.int .i64 mo, .map (some bm)]) 58 (0, 0)) :: Mp Try.prog 2 bm (mE entV m) :: L)) {a e : Int} (hfa : fits a) :
    Fn Try.prog 17 #[.pointer (some ⟨bh, 0, none⟩), .int .i64 a, .int .i64 e] w (fun v w' => v = .bool (decide ((aget m a).isSome = true ∧ (oldE m a).1 = e)) ∧ St w' R (blk bh (.cells (#[.int .i64 mo, .map (some bm)]) 58 (0, 0)) :: Mp Try.prog 2 bm (mE entV m) :: L)) := by
  have hfa2 := id hfa
  unfold fits at hfa2
  refine Fn.intro (n := 25) Try.func17 rfl rfl rfl ?_
  refine WR.seq ?_
  refine WR.region rfl ?_
  refine S.assignC rfl ?_
  refine WS.done ?_
  refine WR.seq ?_
  refine WR.region rfl ?_
  refine S.moveT rfl ?_
  refine S.nilCheck rfl rfl ?_
  refine S.fieldB Try.underlying58 rfl ti56 rfl rfl rfl rfl ?_
  refine S.loadB (i := 0) hS rfl Try.underlying56 rfl rfl rfl rfl ?_
  refine S.moveT rfl ?_
  refine S.lookOk (d0 := zE) (i := 1) hS rfl Try.underlying56 Try.underlying2 ti34 rfl rfl (by omega) rfl ?_
  refine S.moveT rfl ?_
  refine S.extract rfl rfl rfl ?_
  refine S.extract rfl rfl rfl ?_
  refine S.alloc hS ti34 rfl rfl ?_
  intro b7 w7 hS7; clear hS
  refine S.storeB (i := 0) hS7 rfl ti34 rfl rfl rfl rfl rfl rfl rfl rfl ?_
  intro w2001 hS2001; clear hS7
  refine S.assignT rfl ?_
  refine WS.done ?_
  refine WR.seq ?_
  rcases Bool.eq_false_or_eq_true ((aget m a).isSome) with hk | hk
  ·
    rw [hk]
    refine WR.region rfl ?_
    refine S.moveT rfl ?_
    refine S.moveT rfl ?_
    refine S.fieldB Try.underlying34 rfl ti2 rfl rfl rfl rfl ?_
    refine S.loadB (i := 0) hS2001 rfl Try.underlying2 rfl rfl rfl rfl ?_
    refine S.moveT rfl ?_
    refine S.eql rfl rfl rfl ?_
    refine S.pickT rfl rfl ?_
    refine S.assignT rfl ?_
    refine WS.done ?_
    refine WR.ret (ret1 rfl rfl ?_)
    exact ⟨congrArg Value.bool (decide_eq_decide.2 ⟨fun h => ⟨rfl, h⟩, fun h => h.2⟩), (hS2001.drop)⟩
  ·
    rw [hk]
    refine WR.region rfl ?_
    refine S.moveT rfl ?_
    refine S.moveT rfl ?_
    refine S.off rfl ?_
    refine S.off rfl ?_
    refine S.off rfl ?_
    refine S.off rfl ?_
    refine S.pickFC rfl rfl ?_
    refine S.assignT rfl ?_
    refine WS.done ?_
    refine WR.ret (ret1 rfl rfl ?_)
    exact ⟨congrArg Value.bool (decide_eq_false (fun h => by cases h.1)).symm, (hS2001.drop)⟩

set_option maxRecDepth 100000 in
set_option maxHeartbeats 4000000 in
theorem r_set {w : World} {R : Kn} {L : List HP} {mo : Int} {m : EM} {bh bm : Nat} (hS : St w R (blk bh (.cells (#[.int .i64 mo, .map (some bm)]) 58 (0, 0)) :: Mp Try.prog 2 bm (mE entV m) :: L)) {a : Int} {ep bo at_ : Int} (hfa : fits a) (hI : RI mo m) :
    Fn Try.prog 12 #[.pointer (some ⟨bh, 0, none⟩), .int .i64 a, .agg #[.int .i64 ep, .int .i64 bo, .int .i64 at_]] w (fun v w' => v = .int .i64 (sett mo m a (ep, bo, at_)).1 ∧ St w' R (blk bh (.cells (#[.int .i64 mo, .map (some bm)]) 58 (0, 0)) :: Mp Try.prog 2 bm (mE entV (sett mo m a (ep, bo, at_)).2) :: L)) := by
  have hfa2 := id hfa
  unfold fits at hfa2
  have hln := hI.len
  have hmo := hI.mo0
  have hcc := chk_cases (mo := mo) (m := m) (a := a) (b := bo) (t := at_)
  refine Fn.intro (n := 48) Try.func12 rfl rfl rfl ?_
  refine WR.seq ?_
  refine WR.region rfl ?_
  refine S.box hS rfl rfl rfl ?_
  intro b5 w5 hS5; clear hS
  refine S.assignC rfl ?_
  refine WS.done ?_
  refine WR.seq ?_
  refine WR.region rfl ?_
  refine S.moveT rfl ?_
  refine S.nilCheck rfl rfl ?_
  refine S.fieldB Try.underlying58 rfl ti56 rfl rfl rfl rfl ?_
  refine S.loadB (i := 1) hS5 rfl Try.underlying56 rfl rfl rfl rfl ?_
  refine S.moveT rfl ?_
  refine S.lookOk (d0 := zE) (i := 2) hS5 rfl Try.underlying56 Try.underlying2 ti34 rfl rfl (by omega) rfl ?_
  refine S.moveT rfl ?_
  refine S.extract rfl rfl rfl ?_
  refine S.extract rfl rfl rfl ?_
  refine S.alloc hS5 ti34 rfl rfl ?_
  intro b7 w7 hS7; clear hS5
  refine S.storeB (i := 0) hS7 rfl ti34 rfl rfl rfl rfl rfl rfl rfl rfl ?_
  intro w2001 hS2001; clear hS7
  refine S.assignT rfl ?_
  refine WS.done ?_
  refine WR.seq ?_
  refine WR.region rfl ?_
  refine S.moveT rfl ?_
  refine S.moveT rfl ?_
  refine S.loadBA (i := 1) hS2001 rfl Try.underlying34 rfl ti34 rfl rfl rfl rfl ?_
  refine S.call ent20 rfl (r_check ((((hS2001.at_ (i := 1) rfl).at_ (i := 1) rfl).at_ (i := 3) rfl).at_ (i := 3) rfl) (by assumption)) rfl ?_
  rintro _ w22 ⟨rfl, hS22⟩
  clear hS2001
  refine S.assignT rfl ?_
  refine WS.done ?_
  refine WR.seq ?_
  refine WR.block ?_
  refine WR.seq ?_
  refine WR.region rfl ?_
  refine S.moveT rfl ?_
  refine S.eql rfl rfl rfl ?_
  refine S.moveT rfl ?_
  refine S.splitD (d := 26) rfl (fun c26 => ?_) (fun c26 => ?_)
  ·
    skip
    refine S.off rfl ?_
    refine S.off rfl ?_
    refine S.off rfl ?_
    refine S.pickTC rfl rfl ?_
    refine S.moveT rfl ?_
    refine S.off rfl ?_
    refine S.off rfl ?_
    refine S.off rfl ?_
    refine S.pickTC rfl rfl ?_
    refine S.assignT rfl ?_
    refine WS.done ?_
    refine WR.condT rfl ?_
    refine WR.seq ?_
    refine WR.region rfl ?_
    refine S.assignC rfl ?_
    refine WS.done ?_
    refine WR.ret (ret1 rfl rfl ?_)
    rw [sett_err (e := (ep, bo, at_)) (by simp only; omega)]
    exact ⟨rfl, (((((hS22.at_ (i := 1) rfl).at_ (i := 1) rfl).at_ (i := 3) rfl).at_ (i := 3) rfl).drop.drop)⟩
  ·
    skip
    refine S.fieldB Try.underlying34 rfl ti2 rfl rfl rfl rfl ?_
    refine S.loadB (i := 3) hS22 rfl Try.underlying2 rfl rfl rfl rfl ?_
    refine S.lss rfl rfl rfl ?_
    refine S.pickF rfl rfl ?_
    refine S.moveT rfl ?_
    refine S.splitD (d := 31) rfl (fun c31 => ?_) (fun c31 => ?_)
    ·
      skip
      refine S.off rfl ?_
      refine S.off rfl ?_
      refine S.off rfl ?_
      refine S.pickTC rfl rfl ?_
      refine S.assignT rfl ?_
      refine WS.done ?_
      refine WR.condT rfl ?_
      refine WR.seq ?_
      refine WR.region rfl ?_
      refine S.assignC rfl ?_
      refine WS.done ?_
      refine WR.ret (ret1 rfl rfl ?_)
      rw [sett_err (e := (ep, bo, at_)) (by simp only; omega)]
      exact ⟨rfl, (((((hS22.at_ (i := 1) rfl).at_ (i := 1) rfl).at_ (i := 3) rfl).at_ (i := 3) rfl).drop.drop)⟩
    ·
      skip
      refine S.fieldB Try.underlying34 rfl ti2 rfl rfl rfl rfl ?_
      refine S.loadB (i := 3) hS22 rfl Try.underlying2 rfl rfl rfl rfl ?_
      refine S.gtr rfl rfl rfl ?_
      refine S.pickF rfl rfl ?_
      refine S.assignT rfl ?_
      refine WS.done ?_
      refine WR.condD rfl (fun c23 => ?_) (fun c23 => ?_)
      ·
        skip
        refine WR.seq ?_
        refine WR.region rfl ?_
        refine S.assignC rfl ?_
        refine WS.done ?_
        refine WR.ret (ret1 rfl rfl ?_)
        rw [sett_err (e := (ep, bo, at_)) (by simp only; omega)]
        exact ⟨rfl, (((((hS22.at_ (i := 1) rfl).at_ (i := 1) rfl).at_ (i := 3) rfl).at_ (i := 3) rfl).drop.drop)⟩
      ·
        skip
        refine WR.seq ?_
        refine WR.region rfl ?_
        refine S.moveT rfl ?_
        refine S.assignT rfl ?_
        refine WS.done ?_
        refine WR.cond rfl (fun c36 => ?_) (fun c36 => ?_)
        ·
          skip
          refine WR.seq ?_
          refine WR.region rfl ?_
          refine S.assignC rfl ?_
          refine WS.done ?_
          refine WR.ret (ret1 rfl rfl ?_)
          rw [sett_there (e := (ep, bo, at_)) (fun hb => c26 (chk_bad hb)) (by simp only; omega) c36]
          exact ⟨rfl, (((((hS22.at_ (i := 1) rfl).at_ (i := 1) rfl).at_ (i := 3) rfl).at_ (i := 3) rfl).drop.drop)⟩
        ·
          skip
          refine WR.seq ?_
          refine WR.region rfl ?_
          refine S.moveT rfl ?_
          refine S.neq rfl rfl rfl ?_
          refine S.assignT rfl ?_
          refine WS.done ?_
          refine WR.condD rfl (fun c38 => ?_) (fun c38 => ?_)
          ·
            skip
            refine WR.seq ?_
            refine WR.region rfl ?_
            refine S.moveT rfl ?_
            refine S.assignT rfl ?_
            refine WS.done ?_
            refine WR.ret (ret1 rfl rfl ?_)
            have hk : (aget m a).isSome = false := by simpa using c36
            rcases hcc with h | h | h
            · exact absurd h.2 c26
            · rw [sett_full (e := (ep, bo, at_)) h.1 (by simp only; omega) hk h.2.2.1, h.2.2.2]; exact ⟨rfl, (((((hS22.at_ (i := 1) rfl).at_ (i := 1) rfl).at_ (i := 3) rfl).at_ (i := 3) rfl).drop.drop)⟩
            · exact absurd h.2.2 c38
          ·
            skip
            refine WR.skip ?_
            refine WR.seq ?_
            refine WR.regionW (fun j => Nat.beq j 6) 7 rfl mixed hS22 ?_
            intro w6002 hS6002; clear hS22; have hC := hS6002
            refine WA.take (fuel := 6) 0 rfl (by kernel_rfl) (by kernel_rfl) (by kernel_rfl) (by kernel_rfl) rfl rfl hC ?_
            refine Q.moveT rfl ?_
            refine WQ.done ?_
            refine WA.take (fuel := 5) 1 rfl (by kernel_rfl) (by kernel_rfl) (by kernel_rfl) (by kernel_rfl) rfl rfl hC ?_
            refine Q.nilCheck rfl rfl ?_
            refine WQ.done ?_
            refine WA.take (fuel := 4) 2 rfl (by kernel_rfl) (by kernel_rfl) (by kernel_rfl) (by kernel_rfl) rfl rfl hC ?_
            refine Q.fieldB Try.underlying58 rfl ti56 rfl rfl rfl rfl ?_
            refine WQ.done ?_
            refine WA.take (fuel := 3) 3 rfl (by kernel_rfl) (by kernel_rfl) (by kernel_rfl) (by kernel_rfl) rfl rfl hC ?_
            refine Q.loadB (i := 0) rfl Try.underlying56 rfl rfl rfl rfl ?_
            refine WQ.done ?_
            refine WA.take (fuel := 2) 4 rfl (by kernel_rfl) (by kernel_rfl) (by kernel_rfl) (by kernel_rfl) rfl rfl hC ?_
            refine Q.moveT rfl ?_
            refine WQ.done ?_
            refine WA.take (fuel := 1) 5 rfl (by kernel_rfl) (by kernel_rfl) (by kernel_rfl) (by kernel_rfl) rfl rfl hC ?_
            refine Q.loadBA (i := 3) rfl Try.underlying34 rfl ti34 rfl rfl rfl rfl ?_
            refine WQ.done ?_
            refine WA.one (fuel := 0) 6 rfl (by kernel_rfl) rfl ?_
            refine S.mapPut (i := 1) (((ep, bo, at_) : E3)) hS6002 rfl Try.underlying56 Try.underlying2 (by omega) rfl rfl rfl (by omega) rfl ?_
            intro w2003 hS2003; clear hS6002
            refine WS.done ⟨fun h => absurd h (by decide), ?_⟩
            refine WA.done (by kernel_rfl) ?_
            clear hC
            refine WR.seq ?_
            refine WR.region rfl ?_
            refine S.assignC rfl ?_
            refine WS.done ?_
            refine WR.ret (ret1 rfl rfl ?_)
            have hk : (aget m a).isSome = false := by simpa using c36
            have hc0 := Decidable.not_not.1 c38
            rcases hcc with h | h | h
            · exact absurd h.2 c26
            · omega
            · rw [sett_new (e := (ep, bo, at_)) h.1 (by simp only; omega) hk (by rcases h.2.1 with q | q; rw [hk] at q; cases q; exact q)]; exact ⟨rfl, (((((hS2003.at_ (i := 1) rfl).at_ (i := 1) rfl).at_ (i := 3) rfl).at_ (i := 3) rfl).drop.drop)⟩

set_option maxRecDepth 100000 in
set_option maxHeartbeats 4000000 in
theorem r_clone {w : World} {R : Kn} {L : List HP} {mo : Int} {m : EM} {bh bm : Nat} (hS : St w R (blk bh (.cells (#[.int .i64 mo, .map (some bm)]) 58 (0, 0)) :: Mp Try.prog 2 bm (mE entV m) :: L))  :
    Fn Try.prog 19 #[.pointer (some ⟨bh, 0, none⟩)] w (fun v w' => ∃ bh2 bm2, v = .pointer (some ⟨bh2, 0, none⟩) ∧ St w' R (blk bh2 (.cells (#[.int .i64 mo, .map (some bm2)]) 58 (0, 0)) :: Mp Try.prog 2 bm2 (mE entV m) :: blk bh (.cells (#[.int .i64 mo, .map (some bm)]) 58 (0, 0)) :: Mp Try.prog 2 bm (mE entV m) :: L)) := by
  refine Fn.intro (n := 14) Try.func19 rfl rfl rfl ?_
  refine WR.seq ?_
  refine WR.region rfl ?_
  refine S.assignC rfl ?_
  refine WS.done ?_
  refine WR.seq ?_
  refine WR.regionW (fun j => false) 12 rfl mixed hS ?_
  intro w6001 hS6001; clear hS; have hC := hS6001
  refine WA.take (fuel := 11) 0 rfl (by kernel_rfl) (by kernel_rfl) (by kernel_rfl) (by kernel_rfl) rfl rfl hC ?_
  refine Q.moveT rfl ?_
  refine WQ.done ?_
  refine WA.take (fuel := 10) 1 rfl (by kernel_rfl) (by kernel_rfl) (by kernel_rfl) (by kernel_rfl) rfl rfl hC ?_
  refine Q.nilCheck rfl rfl ?_
  refine WQ.done ?_
  refine WA.take (fuel := 9) 2 rfl (by kernel_rfl) (by kernel_rfl) (by kernel_rfl) (by kernel_rfl) rfl rfl hC ?_
  refine Q.fieldB Try.underlying58 rfl ti3 rfl rfl rfl rfl ?_
  refine WQ.done ?_
  refine WA.take (fuel := 8) 3 rfl (by kernel_rfl) (by kernel_rfl) (by kernel_rfl) (by kernel_rfl) rfl rfl hC ?_
  refine Q.loadB (i := 0) rfl Try.underlying3 rfl rfl rfl rfl ?_
  refine WQ.done ?_
  refine WA.take (fuel := 7) 4 rfl (by kernel_rfl) (by kernel_rfl) (by kernel_rfl) (by kernel_rfl) rfl rfl hC ?_
  refine Q.moveT rfl ?_
  refine WQ.done ?_
  refine WA.take (fuel := 6) 5 rfl (by kernel_rfl) (by kernel_rfl) (by kernel_rfl) (by kernel_rfl) rfl rfl hC ?_
  refine Q.nilCheck rfl rfl ?_
  refine WQ.done ?_
  refine WA.take (fuel := 5) 6 rfl (by kernel_rfl) (by kernel_rfl) (by kernel_rfl) (by kernel_rfl) rfl rfl hC ?_
  refine Q.fieldB Try.underlying58 rfl ti56 rfl rfl rfl rfl ?_
  refine WQ.done ?_
  refine WA.take (fuel := 4) 7 rfl (by kernel_rfl) (by kernel_rfl) (by kernel_rfl) (by kernel_rfl) rfl rfl hC ?_
  refine Q.loadB (i := 0) rfl Try.underlying56 rfl rfl rfl rfl ?_
  refine WQ.done ?_
  refine WA.one (fuel := 3) 8 rfl (by kernel_rfl) rfl ?_
  refine S.call ent24 rfl (fn_clone k_cloneA ((hS6001.at_ (i := 0) rfl).at_ (i := 1) rfl) ) rfl ?_
  rintro _ w11 ⟨bc11, rfl, hS11⟩
  clear hS6001
  refine WS.done ⟨fun _ => (((hS11.at_ (i := 1) rfl).at_ (i := 2) rfl).at_ (i := 2) rfl).drop, ?_⟩
  replace hC := (((hS11.at_ (i := 1) rfl).at_ (i := 2) rfl).at_ (i := 2) rfl).drop
  refine WA.one (fuel := 2) 9 rfl (by kernel_rfl) rfl ?_
  refine S.buildStruct [.int _ _, .map _] [(0, 1), (1, 1)] Try.underlying58 ti58 rfl (by kernel_rfl) rfl rfl rfl rfl rfl rfl ?_
  refine WS.done ⟨fun _ => (((hS11.at_ (i := 1) rfl).at_ (i := 2) rfl).at_ (i := 2) rfl).drop, ?_⟩
  replace hC := (((hS11.at_ (i := 1) rfl).at_ (i := 2) rfl).at_ (i := 2) rfl).drop
  refine WA.one (fuel := 1) 10 rfl (by kernel_rfl) rfl ?_
  refine S.box hS11 rfl rfl rfl ?_
  intro b13 w13 hS13; clear hS11
  refine WS.done ⟨fun _ => ((((hS13.at_ (i := 2) rfl).at_ (i := 3) rfl).at_ (i := 3) rfl).at_ (i := 3) rfl).drop.drop, ?_⟩
  replace hC := ((((hS13.at_ (i := 2) rfl).at_ (i := 3) rfl).at_ (i := 3) rfl).at_ (i := 3) rfl).drop.drop
  refine WA.take (fuel := 0) 11 rfl (by kernel_rfl) (by kernel_rfl) (by kernel_rfl) (by kernel_rfl) rfl rfl hC ?_
  refine Q.assignT rfl ?_
  refine WQ.done ?_
  refine WA.done (by kernel_rfl) ?_
  clear hC
  refine WR.ret (ret1 rfl rfl ?_)
  exact ⟨_, _, rfl, ((((hS13.at_ (i := 2) rfl).at_ (i := 3) rfl).at_ (i := 3) rfl).at_ (i := 3) rfl)⟩


end Go.Proofs.Ytiffedgmageiaaa.B

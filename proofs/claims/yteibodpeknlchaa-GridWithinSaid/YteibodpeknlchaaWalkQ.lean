import Derived.Test.YteibodpeknlchaaWalkP
namespace Go.Proofs.Yteibodpeknlchaa.B
open Go.Proofs Go.RowKit
set_option linter.unusedVariables false
set_option linter.unusedSimpArgs false
set_option maxRecDepth 100000 in
set_option maxHeartbeats 4000000 in
theorem r19_right {w : World} {R : Kn} {L : List HP}  (hS : St w R (L)) {w0 p m : Int} :
    Fn Try.prog 9 #[.agg #[.int .i64 w0, .int .i64 p, .int .i64 m]] w (fun v w' => v = .bool (decide (GR w0 p m)) ∧ St w' R L) := by
  have hg := gri_cases w0 p m
  refine Fn.intro (n := 31) Try.func9 rfl rfl rfl ?_
  refine WR.seq ?_
  refine WR.region rfl ?_
  refine S.box hS rfl rfl rfl ?_
  intro b1 w1 hS1; clear hS
  refine S.assignC rfl ?_
  refine WS.done ?_
  refine WR.seq ?_
  refine WR.region rfl ?_
  refine S.fieldB Try.underlying31 rfl ti2 rfl rfl rfl rfl ?_
  refine S.loadB (i := 0) hS1 rfl Try.underlying2 rfl rfl rfl rfl ?_
  refine S.geq rfl rfl rfl ?_
  refine S.moveT rfl ?_
  refine S.splitD (d := 6) rfl (fun c6 => ?_) (fun c6 => ?_)
  ·
    skip
    refine S.fieldB Try.underlying31 rfl ti2 rfl rfl rfl rfl ?_
    refine S.loadB (i := 0) hS1 rfl Try.underlying2 rfl rfl rfl rfl ?_
    refine S.leq rfl rfl rfl ?_
    refine S.pickT rfl rfl ?_
    refine S.moveT rfl ?_
    refine S.splitD (d := 11) rfl (fun c11 => ?_) (fun c11 => ?_)
    ·
      skip
      refine S.fieldB Try.underlying31 rfl ti3 rfl rfl rfl rfl ?_
      refine S.loadB (i := 0) hS1 rfl Try.underlying3 rfl rfl rfl rfl ?_
      refine S.geq rfl rfl rfl ?_
      refine S.pickT rfl rfl ?_
      refine S.moveT rfl ?_
      refine S.splitD (d := 16) rfl (fun c16 => ?_) (fun c16 => ?_)
      ·
        skip
        refine S.fieldB Try.underlying31 rfl ti3 rfl rfl rfl rfl ?_
        refine S.loadB (i := 0) hS1 rfl Try.underlying3 rfl rfl rfl rfl ?_
        refine S.leq rfl rfl rfl ?_
        refine S.pickT rfl rfl ?_
        refine S.moveT rfl ?_
        refine S.splitD (d := 21) rfl (fun c21 => ?_) (fun c21 => ?_)
        ·
          skip
          refine S.fieldB Try.underlying31 rfl ti2 rfl rfl rfl rfl ?_
          refine S.loadB (i := 0) hS1 rfl Try.underlying2 rfl rfl rfl rfl ?_
          refine S.geq rfl rfl rfl ?_
          refine S.pickT rfl rfl ?_
          refine S.moveT rfl ?_
          refine S.splitD (d := 26) rfl (fun c26 => ?_) (fun c26 => ?_)
          ·
            skip
            refine S.fieldB Try.underlying31 rfl ti2 rfl rfl rfl rfl ?_
            refine S.loadB (i := 0) hS1 rfl Try.underlying2 rfl rfl rfl rfl ?_
            refine S.leq rfl rfl rfl ?_
            refine S.pickT rfl rfl ?_
            refine S.assignT rfl ?_
            refine WS.done ?_
            refine WR.ret (ret1 rfl rfl ?_)
            exact ⟨congrArg Value.bool (by first | exact decide_eq_decide.2 (by omega) | exact (decide_eq_false (by omega)).symm | exact (decide_eq_true (by omega)).symm), hS1.drop⟩
          ·
            skip
            refine S.off rfl ?_
            refine S.off rfl ?_
            refine S.off rfl ?_
            refine S.pickFC rfl rfl ?_
            refine S.assignT rfl ?_
            refine WS.done ?_
            refine WR.ret (ret1 rfl rfl ?_)
            exact ⟨congrArg Value.bool (by first | exact decide_eq_decide.2 (by omega) | exact (decide_eq_false (by omega)).symm | exact (decide_eq_true (by omega)).symm), hS1.drop⟩
        ·
          skip
          refine S.off rfl ?_
          refine S.off rfl ?_
          refine S.off rfl ?_
          refine S.pickFC rfl rfl ?_
          refine S.moveT rfl ?_
          refine S.off rfl ?_
          refine S.off rfl ?_
          refine S.off rfl ?_
          refine S.pickFC rfl rfl ?_
          refine S.assignT rfl ?_
          refine WS.done ?_
          refine WR.ret (ret1 rfl rfl ?_)
          exact ⟨congrArg Value.bool (by first | exact decide_eq_decide.2 (by omega) | exact (decide_eq_false (by omega)).symm | exact (decide_eq_true (by omega)).symm), hS1.drop⟩
      ·
        skip
        refine S.off rfl ?_
        refine S.off rfl ?_
        refine S.off rfl ?_
        refine S.pickFC rfl rfl ?_
        refine S.moveT rfl ?_
        refine S.off rfl ?_
        refine S.off rfl ?_
        refine S.off rfl ?_
        refine S.pickFC rfl rfl ?_
        refine S.moveT rfl ?_
        refine S.off rfl ?_
        refine S.off rfl ?_
        refine S.off rfl ?_
        refine S.pickFC rfl rfl ?_
        refine S.assignT rfl ?_
        refine WS.done ?_
        refine WR.ret (ret1 rfl rfl ?_)
        exact ⟨congrArg Value.bool (by first | exact decide_eq_decide.2 (by omega) | exact (decide_eq_false (by omega)).symm | exact (decide_eq_true (by omega)).symm), hS1.drop⟩
    ·
      skip
      refine S.off rfl ?_
      refine S.off rfl ?_
      refine S.off rfl ?_
      refine S.pickFC rfl rfl ?_
      refine S.moveT rfl ?_
      refine S.off rfl ?_
      refine S.off rfl ?_
      refine S.off rfl ?_
      refine S.pickFC rfl rfl ?_
      refine S.moveT rfl ?_
      refine S.off rfl ?_
      refine S.off rfl ?_
      refine S.off rfl ?_
      refine S.pickFC rfl rfl ?_
      refine S.moveT rfl ?_
      refine S.off rfl ?_
      refine S.off rfl ?_
      refine S.off rfl ?_
      refine S.pickFC rfl rfl ?_
      refine S.assignT rfl ?_
      refine WS.done ?_
      refine WR.ret (ret1 rfl rfl ?_)
      exact ⟨congrArg Value.bool (by first | exact decide_eq_decide.2 (by omega) | exact (decide_eq_false (by omega)).symm | exact (decide_eq_true (by omega)).symm), hS1.drop⟩
  ·
    skip
    refine S.off rfl ?_
    refine S.off rfl ?_
    refine S.off rfl ?_
    refine S.pickFC rfl rfl ?_
    refine S.moveT rfl ?_
    refine S.off rfl ?_
    refine S.off rfl ?_
    refine S.off rfl ?_
    refine S.pickFC rfl rfl ?_
    refine S.moveT rfl ?_
    refine S.off rfl ?_
    refine S.off rfl ?_
    refine S.off rfl ?_
    refine S.pickFC rfl rfl ?_
    refine S.moveT rfl ?_
    refine S.off rfl ?_
    refine S.off rfl ?_
    refine S.off rfl ?_
    refine S.pickFC rfl rfl ?_
    refine S.moveT rfl ?_
    refine S.off rfl ?_
    refine S.off rfl ?_
    refine S.off rfl ?_
    refine S.pickFC rfl rfl ?_
    refine S.assignT rfl ?_
    refine WS.done ?_
    refine WR.ret (ret1 rfl rfl ?_)
    exact ⟨congrArg Value.bool (by first | exact decide_eq_decide.2 (by omega) | exact (decide_eq_false (by omega)).symm | exact (decide_eq_true (by omega)).symm), hS1.drop⟩

set_option maxRecDepth 100000 in
set_option maxHeartbeats 4000000 in
theorem l19_of {w : World} {R : Kn} {L : List HP}  (hS : St w R (L)) {w0 p m : Int} :
    Fn Try.prog 10 #[.agg #[.int .i64 w0, .int .i64 p, .int .i64 m]] w (fun v w' => v = .agg #[.int .i64 w0, .int .i64 p, .int .i64 m] ∧ St w' R L) := by
  refine Fn.intro (n := 10) Try.func10 rfl rfl rfl ?_
  refine WR.seq ?_
  refine WR.region rfl ?_
  refine S.box hS rfl rfl rfl ?_
  intro b1 w1 hS1; clear hS
  refine S.alloc hS1 ti31 rfl rfl ?_
  intro b2 w2 hS2; clear hS1
  refine WS.done ?_
  refine WR.seq ?_
  refine WR.region rfl ?_
  refine S.fieldB Try.underlying23 rfl ti2 rfl rfl rfl rfl ?_
  refine S.loadB (i := 1) hS2 rfl Try.underlying2 rfl rfl rfl rfl ?_
  refine S.fieldB Try.underlying23 rfl ti3 rfl rfl rfl rfl ?_
  refine S.loadB (i := 1) hS2 rfl Try.underlying3 rfl rfl rfl rfl ?_
  refine S.fieldB Try.underlying23 rfl ti2 rfl rfl rfl rfl ?_
  refine S.loadB (i := 1) hS2 rfl Try.underlying2 rfl rfl rfl rfl ?_
  refine S.buildStruct [.int _ _, .int _ _, .int _ _] [(0, 1), (1, 1), (2, 1)] Try.underlying31 ti31 rfl (by kernel_rfl) rfl rfl rfl rfl rfl rfl ?_
  refine S.storeB (i := 0) hS2 rfl ti31 rfl rfl rfl rfl rfl rfl rfl rfl ?_
  intro w2001 hS2001; clear hS2
  refine WS.done ?_
  refine WR.ret (retC rfl rfl (run_loadBA (i := 0) hS2001 rfl Try.underlying31 rfl ti31 rfl rfl) ?_)
  exact ⟨rfl, hS2001.drop.drop⟩

set_option maxRecDepth 100000 in
set_option maxHeartbeats 4000000 in
theorem r19_window {w : World} {R : Kn} {L : List HP}  (hS : St w R (L)) {w0 p m t : Int} (ht : fits t) :
    Fn Try.prog 17 #[.agg #[.int .i64 w0, .int .i64 p, .int .i64 m], .int .i64 t] w (fun v w' => v = .int .i64 (win w0 p m t) ∧ St w' R L) := by
  have hg := gri_cases w0 p m
  have hwc := win_cases w0 p m t
  refine Fn.intro (n := 18) Try.func17 rfl rfl rfl ?_
  refine WR.seq ?_
  refine WR.region rfl ?_
  refine S.box hS rfl rfl rfl ?_
  intro b2 w2 hS2; clear hS
  refine S.assignC rfl ?_
  refine WS.done ?_
  refine WR.seq ?_
  refine WR.seq ?_
  refine WR.region rfl ?_
  refine S.loadBA (i := 0) hS2 rfl Try.underlying31 rfl ti31 rfl rfl rfl rfl ?_
  refine S.call ent9 rfl (r19_right hS2 ) rfl ?_
  rintro _ w8 ⟨rfl, hS8⟩
  clear hS2
  refine S.notD rfl rfl ?_
  refine WS.done ?_
  refine WR.condD rfl (fun c9 => ?_) (fun c9 => ?_)
  ·
    skip
    refine WR.seq ?_
    refine WR.region rfl ?_
    refine S.assignC rfl ?_
    refine WS.done ?_
    refine WR.ret (ret1 rfl rfl ?_)
    exact ⟨congrArg (Value.int .i64) (by omega), hS8.drop⟩
  ·
    skip
    refine WR.skip ?_
    refine WR.seq ?_
    refine WR.region rfl ?_
    refine S.moveT rfl ?_
    refine S.fieldB Try.underlying31 rfl ti2 rfl rfl rfl rfl ?_
    refine S.loadB (i := 0) hS8 rfl Try.underlying2 rfl rfl rfl rfl ?_
    refine S.call ent36 rfl (r_ratio hS8 (by exact ht) (by decide) (by unfold fits; omega)) rfl ?_
    rintro _ w14 ⟨rfl, hS14⟩
    clear hS8
    refine S.as (d := 14) rfl ((ratio_one (up := false) (by omega)).trans (told_div (by omega) ht)) ?_
    refine S.moveT rfl ?_
    refine S.extract rfl rfl rfl ?_
    refine S.extract rfl rfl rfl ?_
    refine S.assignT rfl ?_
    refine S.assignT rfl ?_
    refine WS.done ?_
    refine WR.seq ?_
    refine WR.region rfl ?_
    refine S.moveT rfl ?_
    refine S.assignT rfl ?_
    refine WS.done ?_
    refine WR.ret (ret1 rfl rfl ?_)
    exact ⟨congrArg (Value.int .i64) (by omega), hS14.drop⟩

set_option maxRecDepth 100000 in
set_option maxHeartbeats 4000000 in
theorem r19_span {w : World} {R : Kn} {L : List HP}  (hS : St w R (L)) {w0 p m k : Int} (hw : fits w0) (hk : fits k) :
    Fn Try.prog 12 #[.agg #[.int .i64 w0, .int .i64 p, .int .i64 m], .int .i64 k] w (fun v w' => ∃ lo hi e, v = .tuple #[.agg #[.int .i64 lo, .int .i64 hi], .int .i64 e] ∧ SpanP w0 p m k lo hi e ∧ St w' R L) := by
  have hg := gri_cases w0 p m
  have hww := id hw
  unfold fits at hww
  have hkk := id hk
  unfold fits at hkk
  refine Fn.intro (n := 48) Try.func12 rfl rfl rfl ?_
  refine WR.seq ?_
  refine WR.region rfl ?_
  refine S.box hS rfl rfl rfl ?_
  intro b2 w2 hS2; clear hS
  refine S.alloc hS2 ti33 rfl rfl ?_
  intro b4 w4 hS4; clear hS2
  refine S.assignC rfl ?_
  refine WS.done ?_
  refine WR.seq ?_
  refine WR.seq ?_
  refine WR.region rfl ?_
  refine S.loadBA (i := 1) hS4 rfl Try.underlying31 rfl ti31 rfl rfl rfl rfl ?_
  refine S.call ent9 rfl (r19_right hS4 ) rfl ?_
  rintro _ w13 ⟨rfl, hS13⟩
  clear hS4
  refine S.notD rfl rfl ?_
  refine WS.done ?_
  refine WR.condD rfl (fun c14 => ?_) (fun c14 => ?_)
  ·
    skip
    refine WR.seq ?_
    refine WR.region rfl ?_
    refine S.buildZero ti33 rfl (by kernel_rfl) rfl ?_
    refine S.storeB (i := 0) hS13 rfl ti33 rfl rfl rfl rfl rfl rfl rfl rfl ?_
    intro w2001 hS2001; clear hS13
    refine S.assignC rfl ?_
    refine WS.done ?_
    refine WR.ret (retC1 rfl rfl (run_loadBA (i := 0) hS2001 rfl Try.underlying33 rfl ti33 rfl rfl) rfl ?_)
    exact ⟨_, _, _, rfl, .inl ⟨c14, rfl, rfl, rfl⟩, hS2001.drop.drop⟩
  ·
    skip
    refine WR.skip ?_
    refine WR.cutE (J := fun rq rr wr => ∃ (b6 : Nat) (R6 : Kn) (ng6 : Bool) (s6 : Option Addr) (l6 c6 : Nat), (R.le R6 ∧ NumR R6 (.agg #[.bool ng6, .slice s6 l6 c6]) (k * w0)) ∧ rr 6 = .pointer (some ⟨b6, 0, none⟩) ∧ Agr [2, 4] rr rq ∧ St wr R6 (blk b6 (.cells (#[.bool ng6, .slice s6 l6 c6]) 57 (0, 0)) :: blk b4 (.cells (#[.int .i64 0, .int .i64 0]) 33 (0, 0)) :: blk b2 (.cells (#[.int .i64 w0, .int .i64 p, .int .i64 m]) 31 (0, 0)) :: L)) ?_ ?_
    ·
      skip
      refine WR.regionW (fun j => Nat.beq j 7) 8 rfl mixed hS13 ?_
      intro w6003 hS6003; clear hS13; have hC := hS6003
      refine WA.take (fuel := 7) 0 rfl (by kernel_rfl) (by kernel_rfl) (by kernel_rfl) (by kernel_rfl) rfl rfl hC ?_
      refine Q.moveT rfl ?_
      refine WQ.done ?_
      refine WA.take (fuel := 6) 2 rfl (by kernel_rfl) (by kernel_rfl) (by kernel_rfl) (by kernel_rfl) rfl rfl hC ?_
      refine Q.fieldB Try.underlying31 rfl ti2 rfl rfl rfl rfl ?_
      refine WQ.done ?_
      refine WA.take (fuel := 5) 3 rfl (by kernel_rfl) (by kernel_rfl) (by kernel_rfl) (by kernel_rfl) rfl rfl hC ?_
      refine Q.loadB (i := 1) rfl Try.underlying2 rfl rfl rfl rfl ?_
      refine WQ.done ?_
      refine WA.two (fuel := 4) 1 6 rfl rfl (by kernel_rfl) rfl ?_ ?_
      ·
        skip
        refine S.call ent27 rfl (r_of hS6003 (by exact hk)) rfl ?_
        rintro v17 w17 ⟨R17, hR17, hN17, hS17⟩
        clear hS6003
        have hM17 := hN17
        obtain ⟨ng17, s17, ds17, rfl, hro17, hd17, hcn17, hnz17, hz17⟩ := hN17
        obtain ⟨aa17, cc17, rfl, hll17⟩ := hro17.len
        refine WS.done ⟨fun _ => (hS17.weak hR17), ?_⟩
        replace hC := (hS17.weak hR17)
        refine WA.two (fuel := 3) 4 6 rfl rfl (by kernel_rfl) rfl ?_ ?_
        ·
          skip
          refine S.call ent27 rfl (r_of hS17 (by exact hw)) rfl ?_
          rintro v20 w20 ⟨R20, hR20, hN20, hS20⟩
          clear hS17
          have hM20 := hN20
          obtain ⟨ng20, s20, ds20, rfl, hro20, hd20, hcn20, hnz20, hz20⟩ := hN20
          obtain ⟨aa20, cc20, rfl, hll20⟩ := hro20.len
          replace hro17 := hro17.mono hR20
          refine WS.done ⟨fun _ => ((hS20.weak hR20).weak hR17), ?_⟩
          replace hC := ((hS20.weak hR20).weak hR17)
          refine WA.two (fuel := 2) 5 6 rfl rfl (by kernel_rfl) rfl ?_ ?_
          ·
            skip
            refine S.call ent26 rfl (r_mul hS20 (by exact hM17.mono hR20) (by exact hM20) (by exact fits_big hk) (by exact fits_big hw)) rfl ?_
            rintro v21 w21 ⟨R21, hR21, hN21, hS21⟩
            clear hS20
            have hM21 := hN21
            obtain ⟨ng21, s21, ds21, rfl, hro21, hd21, hcn21, hnz21, hz21⟩ := hN21
            obtain ⟨aa21, cc21, rfl, hll21⟩ := hro21.len
            replace hro17 := hro17.mono hR21
            replace hro20 := hro20.mono hR21
            refine WS.done ⟨fun _ => (((hS21.weak hR21).weak hR20).weak hR17), ?_⟩
            replace hC := (((hS21.weak hR21).weak hR20).weak hR17)
            refine WA.one (fuel := 1) 6 rfl (by kernel_rfl) rfl ?_
            refine S.alloc hS21 ti57 rfl rfl ?_
            intro b6 w6 hS6; clear hS21
            refine WS.done ⟨fun _ => (((hS6.drop.weak hR21).weak hR20).weak hR17), ?_⟩
            replace hC := (((hS6.drop.weak hR21).weak hR20).weak hR17)
            refine WA.one (fuel := 0) 7 rfl (by kernel_rfl) rfl ?_
            refine S.storeB (i := 0) hS6 rfl ti57 rfl rfl rfl rfl rfl rfl rfl rfl ?_
            intro w2004 hS2004; clear hS6
            refine WS.done ⟨fun h => absurd h (by decide), ?_⟩
            refine WA.done (by kernel_rfl) ?_
            clear hC
            exact ⟨b6, _, _, _, _, _, (by exact ⟨hR17.trans (hR20.trans hR21), hM21⟩), rfl, ⟨rfl, rfl, trivial⟩, hS2004⟩
          ·
            skip
            refine S.alloc hS20 ti57 rfl rfl ?_
            intro b6 w6 hS6; clear hS20
            refine WS.done ⟨fun _ => ((hS6.drop.weak hR20).weak hR17), ?_⟩
            replace hC := ((hS6.drop.weak hR20).weak hR17)
            refine WA.one (fuel := 1) 5 rfl (by kernel_rfl) rfl ?_
            refine S.call ent26 rfl (r_mul hS6 (by exact hM17.mono hR20) (by exact hM20) (by exact fits_big hk) (by exact fits_big hw)) rfl ?_
            rintro v21 w21 ⟨R21, hR21, hN21, hS21⟩
            clear hS6
            have hM21 := hN21
            obtain ⟨ng21, s21, ds21, rfl, hro21, hd21, hcn21, hnz21, hz21⟩ := hN21
            obtain ⟨aa21, cc21, rfl, hll21⟩ := hro21.len
            replace hro17 := hro17.mono hR21
            replace hro20 := hro20.mono hR21
            refine WS.done ⟨fun _ => (((hS21.drop.weak hR21).weak hR20).weak hR17), ?_⟩
            replace hC := (((hS21.drop.weak hR21).weak hR20).weak hR17)
            refine WA.one (fuel := 0) 7 rfl (by kernel_rfl) rfl ?_
            refine S.storeB (i := 0) hS21 rfl ti57 rfl rfl rfl rfl rfl rfl rfl rfl ?_
            intro w2005 hS2005; clear hS21
            refine WS.done ⟨fun h => absurd h (by decide), ?_⟩
            refine WA.done (by kernel_rfl) ?_
            clear hC
            exact ⟨b6, _, _, _, _, _, (by exact ⟨hR17.trans (hR20.trans hR21), hM21⟩), rfl, ⟨rfl, rfl, trivial⟩, hS2005⟩
        ·
          skip
          refine S.alloc hS17 ti57 rfl rfl ?_
          intro b6 w6 hS6; clear hS17
          refine WS.done ⟨fun _ => (hS6.drop.weak hR17), ?_⟩
          replace hC := (hS6.drop.weak hR17)
          refine WA.one (fuel := 2) 4 rfl (by kernel_rfl) rfl ?_
          refine S.call ent27 rfl (r_of hS6 (by exact hw)) rfl ?_
          rintro v20 w20 ⟨R20, hR20, hN20, hS20⟩
          clear hS6
          have hM20 := hN20
          obtain ⟨ng20, s20, ds20, rfl, hro20, hd20, hcn20, hnz20, hz20⟩ := hN20
          obtain ⟨aa20, cc20, rfl, hll20⟩ := hro20.len
          replace hro17 := hro17.mono hR20
          refine WS.done ⟨fun _ => ((hS20.drop.weak hR20).weak hR17), ?_⟩
          replace hC := ((hS20.drop.weak hR20).weak hR17)
          refine WA.one (fuel := 1) 5 rfl (by kernel_rfl) rfl ?_
          refine S.call ent26 rfl (r_mul hS20 (by exact hM17.mono hR20) (by exact hM20) (by exact fits_big hk) (by exact fits_big hw)) rfl ?_
          rintro v21 w21 ⟨R21, hR21, hN21, hS21⟩
          clear hS20
          have hM21 := hN21
          obtain ⟨ng21, s21, ds21, rfl, hro21, hd21, hcn21, hnz21, hz21⟩ := hN21
          obtain ⟨aa21, cc21, rfl, hll21⟩ := hro21.len
          replace hro17 := hro17.mono hR21
          replace hro20 := hro20.mono hR21
          refine WS.done ⟨fun _ => (((hS21.drop.weak hR21).weak hR20).weak hR17), ?_⟩
          replace hC := (((hS21.drop.weak hR21).weak hR20).weak hR17)
          refine WA.one (fuel := 0) 7 rfl (by kernel_rfl) rfl ?_
          refine S.storeB (i := 0) hS21 rfl ti57 rfl rfl rfl rfl rfl rfl rfl rfl ?_
          intro w2006 hS2006; clear hS21
          refine WS.done ⟨fun h => absurd h (by decide), ?_⟩
          refine WA.done (by kernel_rfl) ?_
          clear hC
          exact ⟨b6, _, _, _, _, _, (by exact ⟨hR17.trans (hR20.trans hR21), hM21⟩), rfl, ⟨rfl, rfl, trivial⟩, hS2006⟩
      ·
        skip
        refine S.alloc hS6003 ti57 rfl rfl ?_
        intro b6 w6 hS6; clear hS6003
        refine WS.done ⟨fun _ => hS6.drop, ?_⟩
        replace hC := hS6.drop
        refine WA.one (fuel := 3) 1 rfl (by kernel_rfl) rfl ?_
        refine S.call ent27 rfl (r_of hS6 (by exact hk)) rfl ?_
        rintro v17 w17 ⟨R17, hR17, hN17, hS17⟩
        clear hS6
        have hM17 := hN17
        obtain ⟨ng17, s17, ds17, rfl, hro17, hd17, hcn17, hnz17, hz17⟩ := hN17
        obtain ⟨aa17, cc17, rfl, hll17⟩ := hro17.len
        refine WS.done ⟨fun _ => (hS17.drop.weak hR17), ?_⟩
        replace hC := (hS17.drop.weak hR17)
        refine WA.one (fuel := 2) 4 rfl (by kernel_rfl) rfl ?_
        refine S.call ent27 rfl (r_of hS17 (by exact hw)) rfl ?_
        rintro v20 w20 ⟨R20, hR20, hN20, hS20⟩
        clear hS17
        have hM20 := hN20
        obtain ⟨ng20, s20, ds20, rfl, hro20, hd20, hcn20, hnz20, hz20⟩ := hN20
        obtain ⟨aa20, cc20, rfl, hll20⟩ := hro20.len
        replace hro17 := hro17.mono hR20
        refine WS.done ⟨fun _ => ((hS20.drop.weak hR20).weak hR17), ?_⟩
        replace hC := ((hS20.drop.weak hR20).weak hR17)
        refine WA.one (fuel := 1) 5 rfl (by kernel_rfl) rfl ?_
        refine S.call ent26 rfl (r_mul hS20 (by exact hM17.mono hR20) (by exact hM20) (by exact fits_big hk) (by exact fits_big hw)) rfl ?_
        rintro v21 w21 ⟨R21, hR21, hN21, hS21⟩
        clear hS20
        have hM21 := hN21
        obtain ⟨ng21, s21, ds21, rfl, hro21, hd21, hcn21, hnz21, hz21⟩ := hN21
        obtain ⟨aa21, cc21, rfl, hll21⟩ := hro21.len
        replace hro17 := hro17.mono hR21
        replace hro20 := hro20.mono hR21
        refine WS.done ⟨fun _ => (((hS21.drop.weak hR21).weak hR20).weak hR17), ?_⟩
        replace hC := (((hS21.drop.weak hR21).weak hR20).weak hR17)
        refine WA.one (fuel := 0) 7 rfl (by kernel_rfl) rfl ?_
        refine S.storeB (i := 0) hS21 rfl ti57 rfl rfl rfl rfl rfl rfl rfl rfl ?_
        intro w2007 hS2007; clear hS21
        refine WS.done ⟨fun h => absurd h (by decide), ?_⟩
        refine WA.done (by kernel_rfl) ?_
        clear hC
        exact ⟨b6, _, _, _, _, _, (by exact ⟨hR17.trans (hR20.trans hR21), hM21⟩), rfl, ⟨rfl, rfl, trivial⟩, hS2007⟩
    ·
      skip
      rintro rr w8002 ⟨b6, R6, ng6, s6, l6, c6, ⟨hR6, hM6⟩, hr8002_6, hA8002, hS8002⟩
      obtain ⟨rr, rfl⟩ := agrBack hA8002
      clear hA8002
      obtain ⟨rr, rfl⟩ := back1 (r := rr) hr8002_6
      clear hr8002_6
      clear hS13
      refine WR.cutE (J := fun rq rr wr => ∃ (b7 : Nat) (R7 : Kn) (ng7 : Bool) (s7 : Option Addr) (l7 c7 : Nat), (R6.le R7 ∧ NumR R7 (.agg #[.bool ng7, .slice s7 l7 c7]) (k * w0 + (w0 - 1))) ∧ rr 7 = .pointer (some ⟨b7, 0, none⟩) ∧ Agr [4, 6] rr rq ∧ St wr R7 (blk b7 (.cells (#[.bool ng7, .slice s7 l7 c7]) 57 (0, 0)) :: blk b6 (.cells (#[.bool ng6, .slice s6 l6 c6]) 57 (0, 0)) :: blk b4 (.cells (#[.int .i64 0, .int .i64 0]) 33 (0, 0)) :: blk b2 (.cells (#[.int .i64 w0, .int .i64 p, .int .i64 m]) 31 (0, 0)) :: L)) ?_ ?_
      ·
        skip
        refine WR.regionW (fun j => Nat.beq j 7) 8 rfl mixed hS8002 ?_
        intro w6009 hS6009; clear hS8002; have hC := hS6009
        refine WA.take (fuel := 7) 0 rfl (by kernel_rfl) (by kernel_rfl) (by kernel_rfl) (by kernel_rfl) rfl rfl hC ?_
        refine Q.loadBA (i := 0) rfl Try.underlying57 rfl ti57 rfl rfl rfl rfl ?_
        refine WQ.done ?_
        refine WA.take (fuel := 6) 1 rfl (by kernel_rfl) (by kernel_rfl) (by kernel_rfl) (by kernel_rfl) rfl rfl hC ?_
        refine Q.fieldB Try.underlying31 rfl ti2 rfl rfl rfl rfl ?_
        refine WQ.done ?_
        refine WA.take (fuel := 5) 2 rfl (by kernel_rfl) (by kernel_rfl) (by kernel_rfl) (by kernel_rfl) rfl rfl hC ?_
        refine Q.loadB (i := 2) rfl Try.underlying2 rfl rfl rfl rfl ?_
        refine WQ.done ?_
        refine WA.take (fuel := 4) 3 rfl (by kernel_rfl) (by kernel_rfl) (by kernel_rfl) (by kernel_rfl) rfl rfl hC ?_
        first
          | refine Q.subN rfl rfl rfl (by omega) ?_
          | refine Q.sub rfl rfl rfl ?_
        refine WQ.done ?_
        refine WA.two (fuel := 3) 4 6 rfl rfl (by kernel_rfl) rfl ?_ ?_
        ·
          skip
          refine S.call ent27 rfl (r_of hS6009 (by unfold fits; omega)) rfl ?_
          rintro v26 w26 ⟨R26, hR26, hN26, hS26⟩
          clear hS6009
          have hM26 := hN26
          obtain ⟨ng26, s26, ds26, rfl, hro26, hd26, hcn26, hnz26, hz26⟩ := hN26
          obtain ⟨aa26, cc26, rfl, hll26⟩ := hro26.len
          replace hM6 := hM6.mono hR26
          refine WS.done ⟨fun _ => (hS26.weak hR26), ?_⟩
          replace hC := (hS26.weak hR26)
          refine WA.two (fuel := 2) 5 6 rfl rfl (by kernel_rfl) rfl ?_ ?_
          ·
            skip
            refine S.call ent28 rfl (r_add hS26 (by exact hM6) (by exact hM26) (by exact prod_big (by omega) (by omega)) (by exact fits_big (by unfold fits; omega))) rfl ?_
            rintro v27 w27 ⟨R27, hR27, hN27, hS27⟩
            clear hS26
            have hM27 := hN27
            obtain ⟨ng27, s27, ds27, rfl, hro27, hd27, hcn27, hnz27, hz27⟩ := hN27
            obtain ⟨aa27, cc27, rfl, hll27⟩ := hro27.len
            replace hM6 := hM6.mono hR27
            replace hro26 := hro26.mono hR27
            refine WS.done ⟨fun _ => ((hS27.weak hR27).weak hR26), ?_⟩
            replace hC := ((hS27.weak hR27).weak hR26)
            refine WA.one (fuel := 1) 6 rfl (by kernel_rfl) rfl ?_
            refine S.alloc hS27 ti57 rfl rfl ?_
            intro b7 w7 hS7; clear hS27
            refine WS.done ⟨fun _ => ((hS7.drop.weak hR27).weak hR26), ?_⟩
            replace hC := ((hS7.drop.weak hR27).weak hR26)
            refine WA.one (fuel := 0) 7 rfl (by kernel_rfl) rfl ?_
            refine S.storeB (i := 0) hS7 rfl ti57 rfl rfl rfl rfl rfl rfl rfl rfl ?_
            intro w2010 hS2010; clear hS7
            refine WS.done ⟨fun h => absurd h (by decide), ?_⟩
            refine WA.done (by kernel_rfl) ?_
            clear hC
            exact ⟨b7, _, _, _, _, _, (by exact ⟨hR26.trans hR27, hM27⟩), rfl, ⟨rfl, rfl, trivial⟩, hS2010⟩
          ·
            skip
            refine S.alloc hS26 ti57 rfl rfl ?_
            intro b7 w7 hS7; clear hS26
            refine WS.done ⟨fun _ => (hS7.drop.weak hR26), ?_⟩
            replace hC := (hS7.drop.weak hR26)
            refine WA.one (fuel := 1) 5 rfl (by kernel_rfl) rfl ?_
            refine S.call ent28 rfl (r_add hS7 (by exact hM6) (by exact hM26) (by exact prod_big (by omega) (by omega)) (by exact fits_big (by unfold fits; omega))) rfl ?_
            rintro v27 w27 ⟨R27, hR27, hN27, hS27⟩
            clear hS7
            have hM27 := hN27
            obtain ⟨ng27, s27, ds27, rfl, hro27, hd27, hcn27, hnz27, hz27⟩ := hN27
            obtain ⟨aa27, cc27, rfl, hll27⟩ := hro27.len
            replace hM6 := hM6.mono hR27
            replace hro26 := hro26.mono hR27
            refine WS.done ⟨fun _ => ((hS27.drop.weak hR27).weak hR26), ?_⟩
            replace hC := ((hS27.drop.weak hR27).weak hR26)
            refine WA.one (fuel := 0) 7 rfl (by kernel_rfl) rfl ?_
            refine S.storeB (i := 0) hS27 rfl ti57 rfl rfl rfl rfl rfl rfl rfl rfl ?_
            intro w2011 hS2011; clear hS27
            refine WS.done ⟨fun h => absurd h (by decide), ?_⟩
            refine WA.done (by kernel_rfl) ?_
            clear hC
            exact ⟨b7, _, _, _, _, _, (by exact ⟨hR26.trans hR27, hM27⟩), rfl, ⟨rfl, rfl, trivial⟩, hS2011⟩
        ·
          skip
          refine S.alloc hS6009 ti57 rfl rfl ?_
          intro b7 w7 hS7; clear hS6009
          refine WS.done ⟨fun _ => hS7.drop, ?_⟩
          replace hC := hS7.drop
          refine WA.one (fuel := 2) 4 rfl (by kernel_rfl) rfl ?_
          refine S.call ent27 rfl (r_of hS7 (by unfold fits; omega)) rfl ?_
          rintro v26 w26 ⟨R26, hR26, hN26, hS26⟩
          clear hS7
          have hM26 := hN26
          obtain ⟨ng26, s26, ds26, rfl, hro26, hd26, hcn26, hnz26, hz26⟩ := hN26
          obtain ⟨aa26, cc26, rfl, hll26⟩ := hro26.len
          replace hM6 := hM6.mono hR26
          refine WS.done ⟨fun _ => (hS26.drop.weak hR26), ?_⟩
          replace hC := (hS26.drop.weak hR26)
          refine WA.one (fuel := 1) 5 rfl (by kernel_rfl) rfl ?_
          refine S.call ent28 rfl (r_add hS26 (by exact hM6) (by exact hM26) (by exact prod_big (by omega) (by omega)) (by exact fits_big (by unfold fits; omega))) rfl ?_
          rintro v27 w27 ⟨R27, hR27, hN27, hS27⟩
          clear hS26
          have hM27 := hN27
          obtain ⟨ng27, s27, ds27, rfl, hro27, hd27, hcn27, hnz27, hz27⟩ := hN27
          obtain ⟨aa27, cc27, rfl, hll27⟩ := hro27.len
          replace hM6 := hM6.mono hR27
          replace hro26 := hro26.mono hR27
          refine WS.done ⟨fun _ => ((hS27.drop.weak hR27).weak hR26), ?_⟩
          replace hC := ((hS27.drop.weak hR27).weak hR26)
          refine WA.one (fuel := 0) 7 rfl (by kernel_rfl) rfl ?_
          refine S.storeB (i := 0) hS27 rfl ti57 rfl rfl rfl rfl rfl rfl rfl rfl ?_
          intro w2012 hS2012; clear hS27
          refine WS.done ⟨fun h => absurd h (by decide), ?_⟩
          refine WA.done (by kernel_rfl) ?_
          clear hC
          exact ⟨b7, _, _, _, _, _, (by exact ⟨hR26.trans hR27, hM27⟩), rfl, ⟨rfl, rfl, trivial⟩, hS2012⟩
      ·
        skip
        rintro rr w8008 ⟨b7, R7, ng7, s7, l7, c7, ⟨hR7, hM7⟩, hr8008_7, hA8008, hS8008⟩
        obtain ⟨rr, rfl⟩ := agrBack hA8008
        clear hA8008
        obtain ⟨rr, rfl⟩ := back1 (r := rr) hr8008_7
        clear hr8008_7
        clear hS8002
        have hM6 := hM6.mono hR7
        refine WR.seq ?_
        refine WR.region rfl ?_
        refine S.loadBA (i := 1) hS8008 rfl Try.underlying57 rfl ti57 rfl rfl rfl rfl ?_
        refine S.call ent29 rfl (r_long hS8008 (by exact hM6)) rfl ?_
        rintro _ w30 ⟨x30, rfl, hf30, hS30⟩
        clear hS8008
        have hf30' := hf30
        refine S.moveT rfl ?_
        refine S.extract rfl rfl rfl ?_
        refine S.extract rfl rfl rfl ?_
        refine S.assignT rfl ?_
        refine S.assignT rfl ?_
        refine WS.done ?_
        refine WR.seq ?_
        refine WR.region rfl ?_
        refine S.loadBA (i := 0) hS30 rfl Try.underlying57 rfl ti57 rfl rfl rfl rfl ?_
        refine S.call ent29 rfl (r_long hS30 (by exact hM7)) rfl ?_
        rintro _ w35 ⟨x35, rfl, hf35, hS35⟩
        clear hS30
        refine S.moveT rfl ?_
        refine S.extract rfl rfl rfl ?_
        refine S.extract rfl rfl rfl ?_
        refine S.assignT rfl ?_
        refine S.assignT rfl ?_
        refine WS.done ?_
        refine WR.seq ?_
        refine WR.seq ?_
        refine WR.region rfl ?_
        refine S.moveT rfl ?_
        refine S.not rfl rfl ?_
        refine S.moveT rfl ?_
        refine S.splitB (d := 40) rfl (fun c40 => ?_) (fun c40 => ?_)
        ·
          skip
          refine S.off rfl ?_
          refine S.off rfl ?_
          refine S.pickTC rfl rfl ?_
          refine WS.done ?_
          refine WR.condT rfl ?_
          refine WR.seq ?_
          refine WR.region rfl ?_
          refine S.buildZero ti33 rfl (by kernel_rfl) rfl ?_
          refine S.storeB (i := 2) hS35 rfl ti33 rfl rfl rfl rfl rfl rfl rfl rfl ?_
          intro w2013 hS2013; clear hS35
          refine S.assignC rfl ?_
          refine WS.done ?_
          refine WR.ret (retC1 rfl rfl (run_loadBA (i := 2) hS2013 rfl Try.underlying33 rfl ti33 rfl rfl) rfl ?_)
          first | exact ⟨_, _, _, rfl, .inr (.inl ⟨Decidable.not_not.1 c14, fun h => by simp_all, rfl, rfl, rfl⟩), hS2013.drop.drop.drop.drop.weak (hR6.trans hR7)⟩ | exact ⟨_, _, _, rfl, .inr (.inr ⟨Decidable.not_not.1 c14, ⟨by simpa using c40, by simpa using c43⟩, hf30 (by simpa using c40), hf35 (by simpa using c43), rfl⟩), hS2013.drop.drop.drop.drop.weak (hR6.trans hR7)⟩
        ·
          skip
          refine S.moveT rfl ?_
          refine S.not rfl rfl ?_
          refine S.pickF rfl rfl ?_
          refine WS.done ?_
          refine WR.cond rfl (fun c43 => ?_) (fun c43 => ?_)
          ·
            skip
            refine WR.seq ?_
            refine WR.region rfl ?_
            refine S.buildZero ti33 rfl (by kernel_rfl) rfl ?_
            refine S.storeB (i := 2) hS35 rfl ti33 rfl rfl rfl rfl rfl rfl rfl rfl ?_
            intro w2014 hS2014; clear hS35
            refine S.assignC rfl ?_
            refine WS.done ?_
            refine WR.ret (retC1 rfl rfl (run_loadBA (i := 2) hS2014 rfl Try.underlying33 rfl ti33 rfl rfl) rfl ?_)
            first | exact ⟨_, _, _, rfl, .inr (.inl ⟨Decidable.not_not.1 c14, fun h => by simp_all, rfl, rfl, rfl⟩), hS2014.drop.drop.drop.drop.weak (hR6.trans hR7)⟩ | exact ⟨_, _, _, rfl, .inr (.inr ⟨Decidable.not_not.1 c14, ⟨by simpa using c40, by simpa using c43⟩, hf30 (by simpa using c40), hf35 (by simpa using c43), rfl⟩), hS2014.drop.drop.drop.drop.weak (hR6.trans hR7)⟩
          ·
            skip
            refine WR.skip ?_
            refine WR.seq ?_
            refine WR.region rfl ?_
            refine S.moveT rfl ?_
            refine S.moveT rfl ?_
            refine S.buildStruct [.int _ _, .int _ _] [(0, 1), (1, 1)] Try.underlying33 ti33 rfl (by kernel_rfl) rfl rfl rfl rfl rfl rfl ?_
            refine S.storeB (i := 2) hS35 rfl ti33 rfl rfl rfl rfl rfl rfl rfl rfl ?_
            intro w2015 hS2015; clear hS35
            refine S.assignC rfl ?_
            refine WS.done ?_
            refine WR.ret (retC1 rfl rfl (run_loadBA (i := 2) hS2015 rfl Try.underlying33 rfl ti33 rfl rfl) rfl ?_)
            first | exact ⟨_, _, _, rfl, .inr (.inl ⟨Decidable.not_not.1 c14, fun h => by simp_all, rfl, rfl, rfl⟩), hS2015.drop.drop.drop.drop.weak (hR6.trans hR7)⟩ | exact ⟨_, _, _, rfl, .inr (.inr ⟨Decidable.not_not.1 c14, ⟨by simpa using c40, by simpa using c43⟩, hf30 (by simpa using c40), hf35 (by simpa using c43), rfl⟩), hS2015.drop.drop.drop.drop.weak (hR6.trans hR7)⟩

set_option maxRecDepth 100000 in
set_option maxHeartbeats 4000000 in
theorem r19_wide {w : World} {R : Kn} {L : List HP}  (hS : St w R (L)) {a b : Int} (ha : fits a) (hb : fits b) :
    Fn Try.prog 32 #[.agg #[.int .i64 a, .int .i64 b]] w (fun v w' => ∃ R' ng s l c, R.le R' ∧ v = .agg #[.bool ng, .slice s l c] ∧ NumR R' v (b - a) ∧ St w' R' L) := by
  refine Fn.intro (n := 11) Try.func32 rfl rfl rfl ?_
  refine WR.seq ?_
  refine WR.region rfl ?_
  refine S.box hS rfl rfl rfl ?_
  intro b1 w1 hS1; clear hS
  refine S.alloc hS1 ti57 rfl rfl ?_
  intro b2 w2 hS2; clear hS1
  refine WS.done ?_
  refine WR.seq ?_
  refine WR.regionW (fun j => Nat.beq j 8) 9 rfl mixed hS2 ?_
  intro w6001 hS6001; clear hS2; have hC := hS6001
  refine WA.take (fuel := 8) 0 rfl (by kernel_rfl) (by kernel_rfl) (by kernel_rfl) (by kernel_rfl) rfl rfl hC ?_
  refine Q.fieldB Try.underlying33 rfl ti2 rfl rfl rfl rfl ?_
  refine WQ.done ?_
  refine WA.take (fuel := 7) 1 rfl (by kernel_rfl) (by kernel_rfl) (by kernel_rfl) (by kernel_rfl) rfl rfl hC ?_
  refine Q.loadB (i := 1) rfl Try.underlying2 rfl rfl rfl rfl ?_
  refine WQ.done ?_
  refine WA.take (fuel := 6) 3 rfl (by kernel_rfl) (by kernel_rfl) (by kernel_rfl) (by kernel_rfl) rfl rfl hC ?_
  refine Q.fieldB Try.underlying33 rfl ti2 rfl rfl rfl rfl ?_
  refine WQ.done ?_
  refine WA.take (fuel := 5) 4 rfl (by kernel_rfl) (by kernel_rfl) (by kernel_rfl) (by kernel_rfl) rfl rfl hC ?_
  refine Q.loadB (i := 1) rfl Try.underlying2 rfl rfl rfl rfl ?_
  refine WQ.done ?_
  refine WA.one (fuel := 4) 2 rfl (by kernel_rfl) rfl ?_
  refine S.call ent27 rfl (r_of hS6001 (by exact hb)) rfl ?_
  rintro v5 w5 ⟨R5, hR5, hN5, hS5⟩
  clear hS6001
  have hM5 := hN5
  obtain ⟨ng5, s5, ds5, rfl, hro5, hd5, hcn5, hnz5, hz5⟩ := hN5
  obtain ⟨aa5, cc5, rfl, hll5⟩ := hro5.len
  refine WS.done ⟨fun _ => (hS5.weak hR5), ?_⟩
  replace hC := (hS5.weak hR5)
  refine WA.one (fuel := 3) 5 rfl (by kernel_rfl) rfl ?_
  refine S.call ent27 rfl (r_of hS5 (by exact ha)) rfl ?_
  rintro v8 w8 ⟨R8, hR8, hN8, hS8⟩
  clear hS5
  have hM8 := hN8
  obtain ⟨ng8, s8, ds8, rfl, hro8, hd8, hcn8, hnz8, hz8⟩ := hN8
  obtain ⟨aa8, cc8, rfl, hll8⟩ := hro8.len
  replace hro5 := hro5.mono hR8
  refine WS.done ⟨fun _ => ((hS8.weak hR8).weak hR5), ?_⟩
  replace hC := ((hS8.weak hR8).weak hR5)
  refine WA.one (fuel := 2) 6 rfl (by kernel_rfl) rfl ?_
  refine S.call ent48 rfl (r_neg hS8 (by exact hM8) (by exact fits_big ha)) rfl ?_
  rintro v9 w9 ⟨hN9, hS9⟩
  clear hS8
  have hM9 := hN9
  obtain ⟨ng9, s9, ds9, rfl, hro9, hd9, hcn9, hnz9, hz9⟩ := hN9
  obtain ⟨aa9, cc9, rfl, hll9⟩ := hro9.len
  refine WS.done ⟨fun _ => ((hS9.weak hR8).weak hR5), ?_⟩
  replace hC := ((hS9.weak hR8).weak hR5)
  refine WA.one (fuel := 1) 7 rfl (by kernel_rfl) rfl ?_
  refine S.call ent28 rfl (r_add hS9 (by exact hM5.mono hR8) (by exact hM9) (by exact fits_big hb) (by rw [Int.natAbs_neg]; exact fits_big ha)) rfl ?_
  rintro v10 w10 ⟨R10, hR10, hN10, hS10⟩
  clear hS9
  have hM10 := hN10
  obtain ⟨ng10, s10, ds10, rfl, hro10, hd10, hcn10, hnz10, hz10⟩ := hN10
  obtain ⟨aa10, cc10, rfl, hll10⟩ := hro10.len
  replace hro5 := hro5.mono hR10
  replace hro8 := hro8.mono hR10
  replace hro9 := hro9.mono hR10
  refine WS.done ⟨fun _ => (((hS10.weak hR10).weak hR8).weak hR5), ?_⟩
  replace hC := (((hS10.weak hR10).weak hR8).weak hR5)
  refine WA.one (fuel := 0) 8 rfl (by kernel_rfl) rfl ?_
  refine S.storeB (i := 0) hS10 rfl ti57 rfl rfl rfl rfl rfl rfl rfl rfl ?_
  intro w2002 hS2002; clear hS10
  refine WS.done ⟨fun h => absurd h (by decide), ?_⟩
  refine WA.done (by kernel_rfl) ?_
  clear hC
  refine WR.ret (retC rfl rfl (run_loadBA (i := 0) hS2002 rfl Try.underlying57 rfl ti57 rfl rfl) ?_)
  exact ⟨_, _, _, _, _, hR5.trans (hR8.trans hR10), rfl, (by rw [Int.sub_eq_add_neg]; exact hM10), hS2002.drop.drop⟩

set_option maxRecDepth 100000 in
set_option maxHeartbeats 4000000 in
theorem r19_pick {w : World} {R : Kn} {L : List HP}  (hS : St w R (L)) {w0 p m a b : Int} (ha : fits a) (hb : fits b) (hm : fits m) :
    Fn Try.prog 14 #[.agg #[.int .i64 w0, .int .i64 p, .int .i64 m], .agg #[.int .i64 a, .int .i64 b]] w (fun v w' => v = .tuple #[.int .i64 (pkV w0 p m a b), .int .i64 (pkE w0 p m a b)] ∧ St w' R L) := by
  have hpk := pk_cases w0 p m a b
  have hwa := win_cases w0 p m a
  have hwb := win_cases w0 p m b
  have hmf : fits (md a b) := by have := md_cases a b; unfold fits at *; omega
  have hwm := win_cases w0 p m (md a b)
  have hbb := id hb
  have haa := id ha
  unfold fits at haa hbb
  refine Fn.intro (n := 47) Try.func14 rfl rfl rfl ?_
  refine WR.seq ?_
  refine WR.region rfl ?_
  refine S.box hS rfl rfl rfl ?_
  intro b2 w2 hS2; clear hS
  refine S.box hS2 rfl rfl rfl ?_
  intro b3 w3 hS3; clear hS2
  refine S.assignC rfl ?_
  refine S.assignC rfl ?_
  refine WS.done ?_
  refine WR.seq ?_
  refine WR.seq ?_
  refine WR.region rfl ?_
  refine S.loadBA (i := 1) hS3 rfl Try.underlying31 rfl ti31 rfl rfl rfl rfl ?_
  refine S.call ent9 rfl (r19_right hS3 ) rfl ?_
  rintro _ w9 ⟨rfl, hS9⟩
  clear hS3
  refine S.notD rfl rfl ?_
  refine WS.done ?_
  refine WR.condD rfl (fun c10 => ?_) (fun c10 => ?_)
  ·
    skip
    refine WR.seq ?_
    refine WR.region rfl ?_
    refine S.assignC rfl ?_
    refine S.assignC rfl ?_
    refine WS.done ?_
    refine WR.ret (ret2 rfl rfl rfl ?_)
    exact ⟨tup2 (congrArg (Value.int .i64) (by omega)) (congrArg (Value.int .i64) (by omega)), hS9.drop.drop⟩
  ·
    skip
    refine WR.skip ?_
    refine WR.seq ?_
    refine WR.seq ?_
    refine WR.region rfl ?_
    refine S.loadBA (i := 0) hS9 rfl Try.underlying33 rfl ti33 rfl rfl rfl rfl ?_
    refine S.call ent19 rfl (r3_right hS9 ) rfl ?_
    rintro _ w12 ⟨rfl, hS12⟩
    clear hS9
    refine S.notD rfl rfl ?_
    refine WS.done ?_
    refine WR.condD rfl (fun c13 => ?_) (fun c13 => ?_)
    ·
      skip
      refine WR.seq ?_
      refine WR.region rfl ?_
      refine S.assignC rfl ?_
      refine S.assignC rfl ?_
      refine WS.done ?_
      refine WR.ret (ret2 rfl rfl rfl ?_)
      exact ⟨tup2 (congrArg (Value.int .i64) (by omega)) (congrArg (Value.int .i64) (by omega)), hS12.drop.drop⟩
    ·
      skip
      refine WR.skip ?_
      refine WR.seq ?_
      refine WR.seq ?_
      refine WR.regionW (fun j => false) 7 rfl mixed hS12 ?_
      intro w6001 hS6001; clear hS12; have hC := hS6001
      refine WA.take (fuel := 6) 0 rfl (by kernel_rfl) (by kernel_rfl) (by kernel_rfl) (by kernel_rfl) rfl rfl hC ?_
      refine Q.loadBA (i := 0) rfl Try.underlying33 rfl ti33 rfl rfl rfl rfl ?_
      refine WQ.done ?_
      refine WA.take (fuel := 5) 2 rfl (by kernel_rfl) (by kernel_rfl) (by kernel_rfl) (by kernel_rfl) rfl rfl hC ?_
      refine Q.fieldB Try.underlying31 rfl ti2 rfl rfl rfl rfl ?_
      refine WQ.done ?_
      refine WA.take (fuel := 4) 3 rfl (by kernel_rfl) (by kernel_rfl) (by kernel_rfl) (by kernel_rfl) rfl rfl hC ?_
      refine Q.loadB (i := 1) rfl Try.underlying2 rfl rfl rfl rfl ?_
      refine WQ.done ?_
      refine WA.one (fuel := 3) 1 rfl (by kernel_rfl) rfl ?_
      refine S.call ent32 rfl (r19_wide hS6001 (by exact ha) (by exact hb)) rfl ?_
      rintro _ w15 ⟨R15, ng15, s15, l15, c15, hR15, rfl, hM15, hS15⟩
      clear hS6001
      refine WS.done ⟨fun _ => (hS15.weak hR15), ?_⟩
      replace hC := (hS15.weak hR15)
      refine WA.one (fuel := 2) 4 rfl (by kernel_rfl) rfl ?_
      refine S.call ent27 rfl (r_of hS15 (by exact hm)) rfl ?_
      rintro v18 w18 ⟨R18, hR18, hN18, hS18⟩
      clear hS15
      have hM18 := hN18
      obtain ⟨ng18, s18, ds18, rfl, hro18, hd18, hcn18, hnz18, hz18⟩ := hN18
      obtain ⟨aa18, cc18, rfl, hll18⟩ := hro18.len
      replace hM15 := hM15.mono hR18
      refine WS.done ⟨fun _ => ((hS18.weak hR18).weak hR15), ?_⟩
      replace hC := ((hS18.weak hR18).weak hR15)
      refine WA.one (fuel := 1) 5 rfl (by kernel_rfl) rfl ?_
      refine S.call ent31 rfl (r_cmp hS18 (by exact hM15) (by exact hM18) (by exact lt_big (by omega)) (by exact fits_big hm)) rfl ?_
      rintro _ w19 ⟨rfl, hS19⟩
      clear hS18
      have hcm := cmp_gt (b - a) m
      refine WS.done ⟨fun _ => ((hS19.weak hR18).weak hR15), ?_⟩
      replace hC := ((hS19.weak hR18).weak hR15)
      refine WA.take (fuel := 0) 6 rfl (by kernel_rfl) (by kernel_rfl) (by kernel_rfl) (by kernel_rfl) rfl rfl hC ?_
      refine Q.gtr rfl rfl rfl ?_
      refine WQ.done ?_
      refine WA.done (by kernel_rfl) ?_
      clear hC
      refine WR.condD rfl (fun c20 => ?_) (fun c20 => ?_)
      ·
        skip
        refine WR.seq ?_
        refine WR.region rfl ?_
        refine S.assignC rfl ?_
        refine S.assignC rfl ?_
        refine WS.done ?_
        refine WR.ret (ret2 rfl rfl rfl ?_)
        exact ⟨tup2 (congrArg (Value.int .i64) (by omega)) (congrArg (Value.int .i64) (by omega)), (hS19.drop.drop).weak (hR15.trans hR18)⟩
      ·
        skip
        refine WR.skip ?_
        refine WR.seq ?_
        refine WR.region rfl ?_
        refine S.loadBA (i := 1) hS19 rfl Try.underlying31 rfl ti31 rfl rfl rfl rfl ?_
        refine S.fieldB Try.underlying33 rfl ti2 rfl rfl rfl rfl ?_
        refine S.loadB (i := 0) hS19 rfl Try.underlying2 rfl rfl rfl rfl ?_
        refine S.call ent17 rfl (r19_window hS19 (by exact ha)) rfl ?_
        rintro _ w24 ⟨rfl, hS24⟩
        clear hS19
        refine S.assignT rfl ?_
        refine WS.done ?_
        refine WR.seq ?_
        refine WR.region rfl ?_
        refine S.loadBA (i := 1) hS24 rfl Try.underlying31 rfl ti31 rfl rfl rfl rfl ?_
        refine S.fieldB Try.underlying33 rfl ti2 rfl rfl rfl rfl ?_
        refine S.loadB (i := 0) hS24 rfl Try.underlying2 rfl rfl rfl rfl ?_
        refine S.call ent17 rfl (r19_window hS24 (by exact hb)) rfl ?_
        rintro _ w28 ⟨rfl, hS28⟩
        clear hS24
        refine S.assignT rfl ?_
        refine WS.done ?_
        refine WR.seq ?_
        refine WR.seq ?_
        refine WR.region rfl ?_
        refine S.fieldB Try.underlying31 rfl ti3 rfl rfl rfl rfl ?_
        refine S.loadB (i := 1) hS28 rfl Try.underlying3 rfl rfl rfl rfl ?_
        refine WS.done ?_
        refine WR.block ?_
        refine WR.seq ?_
        refine WR.region rfl ?_
        refine S.eql rfl rfl rfl ?_
        refine S.assignT rfl ?_
        refine WS.done ?_
        refine WR.condD rfl (fun c31 => ?_) (fun c31 => ?_)
        ·
          skip
          refine WR.seq ?_
          refine WR.region rfl ?_
          refine S.moveT rfl ?_
          refine S.assignT rfl ?_
          refine S.assignC rfl ?_
          refine WS.done ?_
          refine WR.ret (ret2 rfl rfl rfl ?_)
          exact ⟨tup2 (congrArg (Value.int .i64) (by omega)) (congrArg (Value.int .i64) (by omega)), (hS28.drop.drop).weak (hR15.trans hR18)⟩
        ·
          skip
          refine WR.seq ?_
          refine WR.region rfl ?_
          refine S.eql rfl rfl rfl ?_
          refine S.assignT rfl ?_
          refine WS.done ?_
          refine WR.condD rfl (fun c34 => ?_) (fun c34 => ?_)
          ·
            skip
            refine WR.seq ?_
            refine WR.region rfl ?_
            refine S.moveT rfl ?_
            refine S.assignT rfl ?_
            refine S.assignC rfl ?_
            refine WS.done ?_
            refine WR.ret (ret2 rfl rfl rfl ?_)
            exact ⟨tup2 (congrArg (Value.int .i64) (by omega)) (congrArg (Value.int .i64) (by omega)), (hS28.drop.drop).weak (hR15.trans hR18)⟩
          ·
            skip
            refine WR.seq ?_
            refine WR.region rfl ?_
            refine S.eql rfl rfl rfl ?_
            refine S.assignT rfl ?_
            refine WS.done ?_
            refine WR.condD rfl (fun c37 => ?_) (fun c37 => ?_)
            ·
              skip
              refine WR.seq ?_
              refine WR.regionQ mixed hS28 (by kernel_rfl) rfl ?_
              refine Q.loadBA (i := 1) rfl Try.underlying31 rfl ti31 rfl rfl rfl rfl ?_
              refine Q.loadBA (i := 0) rfl Try.underlying33 rfl ti33 rfl rfl rfl rfl ?_
              refine Q.call ent33 rfl (fun w hQ => r3_mid hQ (by exact ha) (by exact hb)) rfl ?_
              refine Q.call ent17 rfl (fun w hQ => r19_window hQ (by exact hmf)) rfl ?_
              refine Q.assignT rfl ?_
              refine Q.assignC rfl ?_
              refine WQ.done ?_
              intro w5002 hS5002
              clear hS28
              refine WR.ret (ret2 rfl rfl rfl ?_)
              exact ⟨tup2 (congrArg (Value.int .i64) (by omega)) (congrArg (Value.int .i64) (by omega)), (hS5002.drop.drop).weak (hR15.trans hR18)⟩
            ·
              skip
              refine WR.skip ?_
              refine WR.seq ?_
              refine WR.seq ?_
              refine WR.region rfl ?_
              refine S.moveT rfl ?_
              refine S.moveT rfl ?_
              refine S.neq rfl rfl rfl ?_
              refine WS.done ?_
              refine WR.condD rfl (fun c45 => ?_) (fun c45 => ?_)
              ·
                skip
                refine WR.seq ?_
                refine WR.region rfl ?_
                refine S.assignC rfl ?_
                refine S.assignC rfl ?_
                refine WS.done ?_
                refine WR.ret (ret2 rfl rfl rfl ?_)
                exact ⟨tup2 (congrArg (Value.int .i64) (by omega)) (congrArg (Value.int .i64) (by omega)), (hS28.drop.drop).weak (hR15.trans hR18)⟩
              ·
                skip
                refine WR.skip ?_
                refine WR.seq ?_
                refine WR.region rfl ?_
                refine S.moveT rfl ?_
                refine S.assignT rfl ?_
                refine S.assignC rfl ?_
                refine WS.done ?_
                refine WR.ret (ret2 rfl rfl rfl ?_)
                exact ⟨tup2 (congrArg (Value.int .i64) (by omega)) (congrArg (Value.int .i64) (by omega)), (hS28.drop.drop).weak (hR15.trans hR18)⟩


end Go.Proofs.Yteibodpeknlchaa.B

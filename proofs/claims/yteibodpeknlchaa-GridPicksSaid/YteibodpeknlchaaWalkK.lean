import Derived.Test.YteibodpeknlchaaWalkA
namespace Go.Proofs.Yteibodpeknlchaa.B
open Go.Proofs Go.RowKit
set_option linter.unusedVariables false
set_option linter.unusedSimpArgs false
set_option maxRecDepth 100000 in
set_option maxHeartbeats 4000000 in
theorem law_GridPicks {w : World} {R : Kn} {L : List HP}  (hS : St w R (L)) {w0 p m a b o : Int} (hw : fits w0) (hp : fits p) (hm : fits m) (ha : fits a) (hb : fits b) :
    Fn Try.prog 4 #[.agg #[.int .i64 w0, .int .i64 p, .int .i64 m], .agg #[.int .i64 a, .int .i64 b], .int .i64 o] w (fun v w' => v = .bool true ∧ St w' R L) := by
  have hmt := mt_at w0 p m a b
  have hpk := pk_cases w0 p m a b
  have hpo := pk_cases w0 o m a b
  have hwd := wd_cases a b
  refine Fn.intro (n := 95) Try.func4 rfl rfl rfl ?_
  refine WR.seq ?_
  refine WR.region rfl ?_
  refine S.box hS rfl rfl rfl ?_
  intro b3 w3 hS3; clear hS
  refine S.box hS3 rfl rfl rfl ?_
  intro b4 w4 hS4; clear hS3
  refine S.assignC rfl ?_
  refine WS.done ?_
  refine WR.seq ?_
  refine WR.seq ?_
  refine WR.region rfl ?_
  refine S.call ent7 rfl (l19_alive hS4 ) rfl ?_
  rintro _ w16 ⟨rfl, hS16⟩
  clear hS4
  refine S.not rfl rfl ?_
  refine WS.done ?_
  refine WR.condF rfl ?_
  refine WR.skip ?_
  refine WR.seq ?_
  refine WR.region rfl ?_
  refine S.loadBA (i := 1) hS16 rfl Try.underlying23 rfl ti23 rfl rfl rfl rfl ?_
  refine S.loadBA (i := 0) hS16 rfl Try.underlying25 rfl ti25 rfl rfl rfl rfl ?_
  refine S.call ent13 rfl (gr_pick hS16 (by exact ha) (by exact hb)) rfl ?_
  rintro _ w21 ⟨rfl, hS21⟩
  clear hS16
  refine S.moveT rfl ?_
  refine S.extract rfl rfl rfl ?_
  refine S.extract rfl rfl rfl ?_
  refine S.assignT rfl ?_
  refine S.assignT rfl ?_
  refine WS.done ?_
  refine WR.seq ?_
  refine WR.seq ?_
  refine WR.region rfl ?_
  refine S.moveT rfl ?_
  refine S.neq rfl rfl rfl ?_
  refine WS.done ?_
  refine WR.condD rfl (fun c25 => ?_) (fun c25 => ?_)
  ·
    skip
    refine WR.seq ?_
    refine WR.region rfl ?_
    refine S.moveT rfl ?_
    refine S.eql rfl rfl rfl ?_
    refine S.isTD (d := 27) rfl (by omega) ?_
    refine S.assignT rfl ?_
    refine WS.done ?_
    refine WR.ret (ret1 rfl rfl ?_)
    exact ⟨rfl, hS21.drop.drop⟩
  ·
    skip
    refine WR.skip ?_
    refine WR.seq ?_
    refine WR.region rfl ?_
    refine S.loadBA (i := 1) hS21 rfl Try.underlying23 rfl ti23 rfl rfl rfl rfl ?_
    refine S.loadBA (i := 0) hS21 rfl Try.underlying25 rfl ti25 rfl rfl rfl rfl ?_
    refine S.call ent15 rfl (gr_meets hS21 (by exact ha) (by exact hb)) rfl ?_
    rintro _ w31 ⟨rfl, hS31⟩
    clear hS21
    refine S.moveT rfl ?_
    refine S.extract rfl rfl rfl ?_
    refine S.extract rfl rfl rfl ?_
    refine S.extract rfl rfl rfl ?_
    refine S.assignT rfl ?_
    refine S.assignT rfl ?_
    refine S.assignT rfl ?_
    refine WS.done ?_
    refine WR.seq ?_
    refine WR.seq ?_
    have hgr : GR w0 p m ∧ a ≤ b := by omega
    have hgx := gr_of hgr.1
    have hd1 := div_le hgx.1 (md_le hgr.2).1
    have hd2 := div_le hgx.1 (md_le hgr.2).2
    refine WR.regionQ mixed hS31 (by kernel_rfl) rfl ?_
    refine Q.moveT rfl ?_
    refine Q.neq rfl rfl rfl ?_
    refine Q.isFD (d := 36) rfl (by omega) ?_
    refine Q.moveT rfl ?_
    refine Q.moveT rfl ?_
    refine Q.moveT rfl ?_
    refine Q.lss rfl rfl rfl ?_
    refine Q.isFD (d := 40) rfl (by omega) ?_
    refine Q.pickF rfl rfl ?_
    refine Q.moveT rfl ?_
    refine Q.moveT rfl ?_
    refine Q.moveT rfl ?_
    refine Q.gtr rfl rfl rfl ?_
    refine Q.isFD (d := 45) rfl (by omega) ?_
    refine Q.pickF rfl rfl ?_
    refine Q.moveT rfl ?_
    refine Q.loadBA (i := 0) rfl Try.underlying25 rfl ti25 rfl rfl rfl rfl ?_
    refine Q.call ent20 rfl (fun w hQ => g_width hQ (by exact ha) (by exact hb)) rfl ?_
    refine Q.fieldB Try.underlying23 rfl ti2 rfl rfl rfl rfl ?_
    refine Q.loadB (i := 1) rfl Try.underlying2 rfl rfl rfl rfl ?_
    first
      | refine Q.convN Try.underlying2 Try.underlying47 rfl rfl (wrap_u64 (by omega) (by omega)) ?_
      | refine Q.conv Try.underlying2 Try.underlying47 rfl rfl ?_
    refine Q.gtr rfl rfl rfl ?_
    refine Q.isFD (d := 53) rfl (by omega) ?_
    refine Q.pickF rfl rfl ?_
    refine Q.moveT rfl ?_
    refine Q.fieldB Try.underlying23 rfl ti3 rfl rfl rfl rfl ?_
    refine Q.loadB (i := 1) rfl Try.underlying3 rfl rfl rfl rfl ?_
    refine Q.eql rfl rfl rfl ?_
    refine Q.moveT rfl ?_
    refine Q.splitD (d := 59) rfl (fun c59 => ?_) (fun c59 => ?_)
    ·
      skip
      refine Q.moveT rfl ?_
      refine Q.moveT rfl ?_
      refine Q.neq rfl rfl rfl ?_
      refine Q.isFD (d := 62) rfl (by omega) ?_
      refine Q.pickT rfl rfl ?_
      refine Q.pickF rfl rfl ?_
      refine WQ.done ?_
      intro w5001 hS5001
      clear hS31
      refine WR.condF rfl ?_
      refine WR.skip ?_
      refine WR.seq ?_
      refine WR.region rfl ?_
      refine S.fieldB Try.underlying23 rfl ti2 rfl rfl rfl rfl ?_
      refine S.loadB (i := 1) hS5001 rfl Try.underlying2 rfl rfl rfl rfl ?_
      refine S.moveT rfl ?_
      refine S.fieldB Try.underlying23 rfl ti2 rfl rfl rfl rfl ?_
      refine S.loadB (i := 1) hS5001 rfl Try.underlying2 rfl rfl rfl rfl ?_
      refine S.call ent8 rfl (gr_new hS5001 ) rfl ?_
      rintro _ w71 ⟨a71, b71', c71, e71, rfl, hG71, hS71⟩
      clear hS5001
      refine S.moveT rfl ?_
      refine S.extract rfl rfl rfl ?_
      refine S.extract rfl rfl rfl ?_
      refine S.alloc hS71 ti23 rfl rfl ?_
      intro b12 w12 hS12; clear hS71
      refine S.storeB (i := 0) hS12 rfl ti23 rfl rfl rfl rfl rfl rfl rfl rfl ?_
      intro w2002 hS2002; clear hS12
      refine S.assignT rfl ?_
      refine WS.done ?_
      refine WR.seq ?_
      refine WR.seq ?_
      refine WR.region rfl ?_
      refine S.moveT rfl ?_
      refine S.neq rfl rfl rfl ?_
      refine S.moveT rfl ?_
      refine S.splitD (d := 76) rfl (fun c76 => ?_) (fun c76 => ?_)
      ·
        skip
        refine S.off rfl ?_
        refine S.off rfl ?_
        refine S.off rfl ?_
        refine S.off rfl ?_
        refine S.pickTC rfl rfl ?_
        refine WS.done ?_
        refine WR.condT rfl ?_
        refine WR.seq ?_
        refine WR.region rfl ?_
        refine S.assignC rfl ?_
        refine WS.done ?_
        refine WR.ret (ret1 rfl rfl ?_)
        exact ⟨rfl, hS2002.drop.drop.drop⟩
      ·
        skip
        refine S.loadBA (i := 2) hS2002 rfl Try.underlying23 rfl ti23 rfl rfl rfl rfl ?_
        refine S.loadBA (i := 1) hS2002 rfl Try.underlying25 rfl ti25 rfl rfl rfl rfl ?_
        refine S.call ent18 rfl (gr_certain hS2002 (by exact ha) (by exact hb)) rfl ?_
        rintro _ w79 ⟨rfl, hS79⟩
        clear hS2002
        refine S.notD rfl rfl ?_
        refine S.pickF rfl rfl ?_
        refine WS.done ?_
        refine WR.condD rfl (fun c81 => ?_) (fun c81 => ?_)
        ·
          skip
          refine WR.seq ?_
          refine WR.region rfl ?_
          refine S.assignC rfl ?_
          refine WS.done ?_
          refine WR.ret (ret1 rfl rfl ?_)
          exact ⟨rfl, hS79.drop.drop.drop⟩
        ·
          skip
          refine WR.skip ?_
          refine WR.seq ?_
          obtain rfl : w0 = a71 := by omega
          obtain rfl : o = b71' := by omega
          obtain rfl : m = c71 := by omega
          refine WR.region rfl ?_
          refine S.loadBA (i := 0) hS79 rfl Try.underlying23 rfl ti23 rfl rfl rfl rfl ?_
          refine S.loadBA (i := 1) hS79 rfl Try.underlying25 rfl ti25 rfl rfl rfl rfl ?_
          refine S.call ent13 rfl (gr_pick hS79 (by exact ha) (by exact hb)) rfl ?_
          rintro _ w85 ⟨rfl, hS85⟩
          clear hS79
          refine S.moveT rfl ?_
          refine S.extract rfl rfl rfl ?_
          refine S.extract rfl rfl rfl ?_
          refine S.assignT rfl ?_
          refine S.assignT rfl ?_
          refine WS.done ?_
          refine WR.seq ?_
          refine WR.region rfl ?_
          refine S.moveT rfl ?_
          refine S.eql rfl rfl rfl ?_
          refine S.isTD (d := 89) rfl (by omega) ?_
          refine S.moveT rfl ?_
          refine S.moveT rfl ?_
          refine S.moveT rfl ?_
          refine S.eql rfl rfl rfl ?_
          refine S.isTD (d := 93) rfl (by omega) ?_
          refine S.pickT rfl rfl ?_
          refine S.assignT rfl ?_
          refine WS.done ?_
          refine WR.ret (ret1 rfl rfl ?_)
          exact ⟨rfl, hS85.drop.drop.drop⟩
    ·
      skip
      refine Q.off rfl ?_
      refine Q.off rfl ?_
      refine Q.off rfl ?_
      refine Q.pickFC rfl rfl ?_
      refine Q.pickF rfl rfl ?_
      refine WQ.done ?_
      intro w5003 hS5003
      clear hS31
      refine WR.condF rfl ?_
      refine WR.skip ?_
      refine WR.seq ?_
      refine WR.region rfl ?_
      refine S.fieldB Try.underlying23 rfl ti2 rfl rfl rfl rfl ?_
      refine S.loadB (i := 1) hS5003 rfl Try.underlying2 rfl rfl rfl rfl ?_
      refine S.moveT rfl ?_
      refine S.fieldB Try.underlying23 rfl ti2 rfl rfl rfl rfl ?_
      refine S.loadB (i := 1) hS5003 rfl Try.underlying2 rfl rfl rfl rfl ?_
      refine S.call ent8 rfl (gr_new hS5003 ) rfl ?_
      rintro _ w71 ⟨a71, b71', c71, e71, rfl, hG71, hS71⟩
      clear hS5003
      refine S.moveT rfl ?_
      refine S.extract rfl rfl rfl ?_
      refine S.extract rfl rfl rfl ?_
      refine S.alloc hS71 ti23 rfl rfl ?_
      intro b12 w12 hS12; clear hS71
      refine S.storeB (i := 0) hS12 rfl ti23 rfl rfl rfl rfl rfl rfl rfl rfl ?_
      intro w2004 hS2004; clear hS12
      refine S.assignT rfl ?_
      refine WS.done ?_
      refine WR.seq ?_
      refine WR.seq ?_
      refine WR.region rfl ?_
      refine S.moveT rfl ?_
      refine S.neq rfl rfl rfl ?_
      refine S.moveT rfl ?_
      refine S.splitD (d := 76) rfl (fun c76 => ?_) (fun c76 => ?_)
      ·
        skip
        refine S.off rfl ?_
        refine S.off rfl ?_
        refine S.off rfl ?_
        refine S.off rfl ?_
        refine S.pickTC rfl rfl ?_
        refine WS.done ?_
        refine WR.condT rfl ?_
        refine WR.seq ?_
        refine WR.region rfl ?_
        refine S.assignC rfl ?_
        refine WS.done ?_
        refine WR.ret (ret1 rfl rfl ?_)
        exact ⟨rfl, hS2004.drop.drop.drop⟩
      ·
        skip
        refine S.loadBA (i := 2) hS2004 rfl Try.underlying23 rfl ti23 rfl rfl rfl rfl ?_
        refine S.loadBA (i := 1) hS2004 rfl Try.underlying25 rfl ti25 rfl rfl rfl rfl ?_
        refine S.call ent18 rfl (gr_certain hS2004 (by exact ha) (by exact hb)) rfl ?_
        rintro _ w79 ⟨rfl, hS79⟩
        clear hS2004
        refine S.notD rfl rfl ?_
        refine S.pickF rfl rfl ?_
        refine WS.done ?_
        refine WR.condD rfl (fun c81 => ?_) (fun c81 => ?_)
        ·
          skip
          refine WR.seq ?_
          refine WR.region rfl ?_
          refine S.assignC rfl ?_
          refine WS.done ?_
          refine WR.ret (ret1 rfl rfl ?_)
          exact ⟨rfl, hS79.drop.drop.drop⟩
        ·
          skip
          refine WR.skip ?_
          refine WR.seq ?_
          obtain rfl : w0 = a71 := by omega
          obtain rfl : o = b71' := by omega
          obtain rfl : m = c71 := by omega
          refine WR.region rfl ?_
          refine S.loadBA (i := 0) hS79 rfl Try.underlying23 rfl ti23 rfl rfl rfl rfl ?_
          refine S.loadBA (i := 1) hS79 rfl Try.underlying25 rfl ti25 rfl rfl rfl rfl ?_
          refine S.call ent13 rfl (gr_pick hS79 (by exact ha) (by exact hb)) rfl ?_
          rintro _ w85 ⟨rfl, hS85⟩
          clear hS79
          refine S.moveT rfl ?_
          refine S.extract rfl rfl rfl ?_
          refine S.extract rfl rfl rfl ?_
          refine S.assignT rfl ?_
          refine S.assignT rfl ?_
          refine WS.done ?_
          refine WR.seq ?_
          refine WR.region rfl ?_
          refine S.moveT rfl ?_
          refine S.eql rfl rfl rfl ?_
          refine S.isTD (d := 89) rfl (by omega) ?_
          refine S.moveT rfl ?_
          refine S.moveT rfl ?_
          refine S.moveT rfl ?_
          refine S.eql rfl rfl rfl ?_
          refine S.isTD (d := 93) rfl (by omega) ?_
          refine S.pickT rfl rfl ?_
          refine S.assignT rfl ?_
          refine WS.done ?_
          refine WR.ret (ret1 rfl rfl ?_)
          exact ⟨rfl, hS85.drop.drop.drop⟩


end Go.Proofs.Yteibodpeknlchaa.B

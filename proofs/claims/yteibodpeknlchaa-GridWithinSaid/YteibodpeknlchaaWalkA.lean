import Derived.Test.YteibodpeknlchaaWalkG
import Derived.Test.YteibodpeknlchaaWalkQ
namespace Go.Proofs.Yteibodpeknlchaa.B
open Go.Proofs Go.RowKit
set_option linter.unusedVariables false
set_option linter.unusedSimpArgs false
set_option maxRecDepth 100000 in
set_option maxHeartbeats 4000000 in
theorem l19_alive {w : World} {R : Kn} {L : List HP}  (hS : St w R (L))  :
    Fn Try.prog 7 #[] w (fun v w' => v = .bool true ∧ St w' R L) := by
  refine Fn.intro (n := 101) Try.func7 rfl rfl rfl ?_
  refine WR.seq ?_
  refine WR.region rfl ?_
  refine S.assignC rfl ?_
  refine WS.done ?_
  refine WR.seq ?_
  refine WR.region rfl ?_
  refine S.call ent8 rfl (gr_new hS ) rfl ?_
  rintro _ w15 ⟨a15, b15', c15, e15, rfl, hG15, hS15⟩
  clear hS
  have hgd : gri 10 2 20 = 1 := by decide
  obtain ⟨rfl, rfl, rfl, rfl⟩ : a15 = 10 ∧ b15' = 2 ∧ c15 = 20 ∧ e15 = 0 := by omega
  refine S.moveT rfl ?_
  refine S.extract rfl rfl rfl ?_
  refine S.extract rfl rfl rfl ?_
  refine S.alloc hS15 ti23 rfl rfl ?_
  intro b1 w1 hS1; clear hS15
  refine S.storeB (i := 0) hS1 rfl ti23 rfl rfl rfl rfl rfl rfl rfl rfl ?_
  intro w2001 hS2001; clear hS1
  refine S.assignT rfl ?_
  refine WS.done ?_
  refine WR.seq ?_
  refine WR.region rfl ?_
  refine S.call ent8 rfl (gr_new hS2001 ) rfl ?_
  rintro _ w19 ⟨a19, b19', c19, e19, rfl, hG19, hS19⟩
  clear hS2001
  have hge : gri 0 0 0 = 0 := by decide
  obtain ⟨rfl, rfl, rfl, rfl⟩ : a19 = 0 ∧ b19' = 0 ∧ c19 = 0 ∧ e19 = 11 := by omega
  refine S.moveT rfl ?_
  refine S.extract rfl rfl rfl ?_
  refine S.extract rfl rfl rfl ?_
  refine S.alloc hS19 ti23 rfl rfl ?_
  intro b3 w3 hS3; clear hS19
  refine S.storeB (i := 0) hS3 rfl ti23 rfl rfl rfl rfl rfl rfl rfl rfl ?_
  intro w2002 hS2002; clear hS3
  refine S.assignT rfl ?_
  refine WS.done ?_
  refine WR.seq ?_
  refine WR.region rfl ?_
  refine S.loadBA (i := 1) hS2002 rfl Try.underlying23 rfl ti23 rfl rfl rfl rfl ?_
  refine S.call ent11 rfl (gr_span hS2002 (by decide) (by decide)) rfl ?_
  rintro _ w24 ⟨lo24, hi24, e24, rfl, hP24, hS24⟩
  clear hS2002
  obtain ⟨rfl, rfl, rfl⟩ : lo24 = 20 ∧ hi24 = 29 ∧ e24 = 0 := hP24.same (.inr (.inr ⟨by decide, by decide, by decide, by decide, rfl⟩))
  refine S.moveT rfl ?_
  refine S.extract rfl rfl rfl ?_
  refine S.extract rfl rfl rfl ?_
  refine S.alloc hS24 ti25 rfl rfl ?_
  intro b5 w5 hS5; clear hS24
  refine S.storeB (i := 0) hS5 rfl ti25 rfl rfl rfl rfl rfl rfl rfl rfl ?_
  intro w2003 hS2003; clear hS5
  refine S.assignT rfl ?_
  refine WS.done ?_
  refine WR.seq ?_
  refine WR.region rfl ?_
  refine S.loadBA (i := 2) hS2003 rfl Try.underlying23 rfl ti23 rfl rfl rfl rfl ?_
  refine S.buildStruct [.int _ _, .int _ _] [(0, 1), (1, 1)] Try.underlying25 ti25 rfl (by kernel_rfl) rfl rfl rfl rfl rfl rfl ?_
  refine S.call ent15 rfl (gr_meets hS2003 (by decide) (by decide)) rfl ?_
  rintro _ w30 ⟨rfl, hS30⟩
  clear hS2003
  refine S.moveT rfl ?_
  refine S.extract rfl rfl rfl ?_
  refine S.extract rfl rfl rfl ?_
  refine S.extract rfl rfl rfl ?_
  refine S.assignT rfl ?_
  refine S.assignT rfl ?_
  refine S.assignT rfl ?_
  refine WS.done ?_
  refine WR.seq ?_
  refine WR.region rfl ?_
  refine S.loadBA (i := 2) hS30 rfl Try.underlying23 rfl ti23 rfl rfl rfl rfl ?_
  refine S.buildStruct [.int _ _, .int _ _] [(0, 1), (1, 1)] Try.underlying25 ti25 rfl (by kernel_rfl) rfl rfl rfl rfl rfl rfl ?_
  refine S.call ent13 rfl (gr_pick hS30 (by decide) (by decide)) rfl ?_
  rintro _ w37 ⟨rfl, hS37⟩
  clear hS30
  refine S.moveT rfl ?_
  refine S.extract rfl rfl rfl ?_
  refine S.extract rfl rfl rfl ?_
  refine S.assignT rfl ?_
  refine S.assignT rfl ?_
  refine WS.done ?_
  refine WR.seq ?_
  refine WR.region rfl ?_
  refine S.loadBA (i := 2) hS37 rfl Try.underlying23 rfl ti23 rfl rfl rfl rfl ?_
  refine S.buildStruct [.int _ _, .int _ _] [(0, 1), (1, 1)] Try.underlying25 ti25 rfl (by kernel_rfl) rfl rfl rfl rfl rfl rfl ?_
  refine S.call ent13 rfl (gr_pick hS37 (by decide) (by decide)) rfl ?_
  rintro _ w43 ⟨rfl, hS43⟩
  clear hS37
  refine S.moveT rfl ?_
  refine S.extract rfl rfl rfl ?_
  refine S.extract rfl rfl rfl ?_
  refine S.assignT rfl ?_
  refine S.assignT rfl ?_
  refine WS.done ?_
  refine WR.seq ?_
  refine WR.region rfl ?_
  refine S.moveT rfl ?_
  refine S.eql rfl rfl rfl ?_
  refine S.isTD (d := 47) rfl (by decide) ?_
  refine S.moveT rfl ?_
  refine S.moveT rfl ?_
  refine S.eql rfl rfl rfl ?_
  refine S.isTD (d := 50) rfl (by decide) ?_
  refine S.pickT rfl rfl ?_
  refine S.moveT rfl ?_
  refine S.moveT rfl ?_
  refine S.eql rfl rfl rfl ?_
  refine S.isTD (d := 54) rfl (by decide) ?_
  refine S.pickT rfl rfl ?_
  refine S.moveT rfl ?_
  refine S.moveT rfl ?_
  refine S.eql rfl rfl rfl ?_
  refine S.isTD (d := 58) rfl (by decide) ?_
  refine S.pickT rfl rfl ?_
  refine S.moveT rfl ?_
  refine S.moveT rfl ?_
  refine S.eql rfl rfl rfl ?_
  refine S.isTD (d := 62) rfl (by decide) ?_
  refine S.pickT rfl rfl ?_
  refine S.moveT rfl ?_
  refine S.moveT rfl ?_
  refine S.eql rfl rfl rfl ?_
  refine S.isTD (d := 66) rfl (by decide) ?_
  refine S.pickT rfl rfl ?_
  refine S.moveT rfl ?_
  refine S.loadBA (i := 2) hS43 rfl Try.underlying23 rfl ti23 rfl rfl rfl rfl ?_
  refine S.call ent16 rfl (gr_window hS43 (by decide)) rfl ?_
  rintro _ w70 ⟨rfl, hS70⟩
  clear hS43
  refine S.eql rfl rfl rfl ?_
  refine S.isTD (d := 71) rfl (by decide) ?_
  refine S.pickT rfl rfl ?_
  refine S.moveT rfl ?_
  refine S.loadBA (i := 0) hS70 rfl Try.underlying25 rfl ti25 rfl rfl rfl rfl ?_
  refine S.buildStruct [.int _ _, .int _ _] [(0, 1), (1, 1)] Try.underlying25 ti25 rfl (by kernel_rfl) rfl rfl rfl rfl rfl rfl ?_
  refine S.eqlS rfl rfl (by kernel_rfl) (Eq1.struct Try.underlying25 (by kernel_rfl) (EqF.cons (by decide) (Part1.one Try.underlying2 rfl rfl) (Part1.one Try.underlying2 rfl rfl) (Eq1.int Try.underlying2) (EqF.one (by decide) (Part1.one Try.underlying2 rfl rfl) (Part1.one Try.underlying2 rfl rfl) (Eq1.int Try.underlying2)))) rfl ?_
  refine S.isTD (d := 76) rfl (by decide) ?_
  refine S.pickT rfl rfl ?_
  refine S.moveT rfl ?_
  refine S.moveT rfl ?_
  refine S.eql rfl rfl rfl ?_
  refine S.isTD (d := 80) rfl (by decide) ?_
  refine S.pickT rfl rfl ?_
  refine S.moveT rfl ?_
  refine S.moveT rfl ?_
  refine S.eql rfl rfl rfl ?_
  refine S.isTD (d := 84) rfl (by decide) ?_
  refine S.pickT rfl rfl ?_
  refine S.moveT rfl ?_
  refine S.moveT rfl ?_
  refine S.eql rfl rfl rfl ?_
  refine S.isTD (d := 88) rfl (by decide) ?_
  refine S.pickT rfl rfl ?_
  refine S.moveT rfl ?_
  refine S.loadBA (i := 2) hS70 rfl Try.underlying23 rfl ti23 rfl rfl rfl rfl ?_
  refine S.loadBA (i := 0) hS70 rfl Try.underlying25 rfl ti25 rfl rfl rfl rfl ?_
  refine S.call ent18 rfl (gr_certain hS70 (by decide) (by decide)) rfl ?_
  rintro _ w93 ⟨rfl, hS93⟩
  clear hS70
  refine S.isTD (d := 93) rfl (by decide) ?_
  refine S.pickT rfl rfl ?_
  refine S.moveT rfl ?_
  refine S.loadBA (i := 2) hS93 rfl Try.underlying23 rfl ti23 rfl rfl rfl rfl ?_
  refine S.buildStruct [.int _ _, .int _ _] [(0, 1), (1, 1)] Try.underlying25 ti25 rfl (by kernel_rfl) rfl rfl rfl rfl rfl rfl ?_
  refine S.call ent18 rfl (gr_certain hS93 (by decide) (by decide)) rfl ?_
  rintro _ w98 ⟨rfl, hS98⟩
  clear hS93
  refine S.isFD (d := 98) rfl (by decide) ?_
  refine S.not rfl rfl ?_
  refine S.pickT rfl rfl ?_
  refine S.assignT rfl ?_
  refine WS.done ?_
  refine WR.ret (ret1 rfl rfl ?_)
  exact ⟨rfl, hS98.drop.drop.drop⟩

set_option maxRecDepth 100000 in
set_option maxHeartbeats 4000000 in
theorem law_GridAnswers {w : World} {R : Kn} {L : List HP}  (hS : St w R (L)) {w0 p m t a b : Int} (hw : fits w0) (hp : fits p) (hm : fits m) (ht : fits t) (ha : fits a) (hb : fits b) :
    Fn Try.prog 3 #[.agg #[.int .i64 w0, .int .i64 p, .int .i64 m], .int .i64 t, .agg #[.int .i64 a, .int .i64 b]] w (fun v w' => v = .bool true ∧ St w' R L) := by
  have hmt := mt_at w0 p m a b
  have hwa := win_cases w0 p m a
  have hwb := win_cases w0 p m b
  refine Fn.intro (n := 205) Try.func3 rfl rfl rfl ?_
  refine WR.seq ?_
  refine WR.region rfl ?_
  refine S.box hS rfl rfl rfl ?_
  intro b3 w3 hS3; clear hS
  refine S.box hS3 rfl rfl rfl ?_
  intro b5 w5 hS5; clear hS3
  refine S.assignC rfl ?_
  refine WS.done ?_
  refine WR.seq ?_
  refine WR.seq ?_
  refine WR.region rfl ?_
  refine S.call ent7 rfl (l19_alive hS5 ) rfl ?_
  rintro _ w24 ⟨rfl, hS24⟩
  clear hS5
  refine S.not rfl rfl ?_
  refine WS.done ?_
  refine WR.condF rfl ?_
  refine WR.skip ?_
  refine WR.seq ?_
  refine WR.region rfl ?_
  refine S.fieldB Try.underlying23 rfl ti2 rfl rfl rfl rfl ?_
  refine S.loadB (i := 1) hS24 rfl Try.underlying2 rfl rfl rfl rfl ?_
  refine S.fieldB Try.underlying23 rfl ti3 rfl rfl rfl rfl ?_
  refine S.loadB (i := 1) hS24 rfl Try.underlying3 rfl rfl rfl rfl ?_
  refine S.fieldB Try.underlying23 rfl ti2 rfl rfl rfl rfl ?_
  refine S.loadB (i := 1) hS24 rfl Try.underlying2 rfl rfl rfl rfl ?_
  refine S.call ent8 rfl (gr_new hS24 ) rfl ?_
  rintro _ w33 ⟨a33, b33', c33, e33, rfl, hG33, hS33⟩
  clear hS24
  refine S.moveT rfl ?_
  refine S.extract rfl rfl rfl ?_
  refine S.extract rfl rfl rfl ?_
  refine S.alloc hS33 ti23 rfl rfl ?_
  intro b7 w7 hS7; clear hS33
  refine S.storeB (i := 0) hS7 rfl ti23 rfl rfl rfl rfl rfl rfl rfl rfl ?_
  intro w2001 hS2001; clear hS7
  refine S.assignT rfl ?_
  refine WS.done ?_
  refine WR.seq ?_
  refine WR.region rfl ?_
  refine S.loadBA (i := 2) hS2001 rfl Try.underlying23 rfl ti23 rfl rfl rfl rfl ?_
  refine S.call ent10 rfl (l19_of hS2001 ) rfl ?_
  rintro _ w37 ⟨rfl, hS37⟩
  clear hS2001
  refine S.call ent9 rfl (r19_right hS37 ) rfl ?_
  rintro _ w38 ⟨rfl, hS38⟩
  clear hS37
  refine S.assignT rfl ?_
  refine WS.done ?_
  refine WR.seq ?_
  refine WR.seq ?_
  refine WR.region rfl ?_
  refine S.moveT rfl ?_
  refine S.moveT rfl ?_
  refine S.splitD (d := 40) rfl (fun c40 => ?_) (fun c40 => ?_)
  ·
    skip
    refine S.moveT rfl ?_
    refine S.neq rfl rfl rfl ?_
    refine S.isFD (d := 42) rfl (by omega) ?_
    refine S.moveT rfl ?_
    refine S.loadBA (i := 0) hS38 rfl Try.underlying23 rfl ti23 rfl rfl rfl rfl ?_
    refine S.loadBA (i := 2) hS38 rfl Try.underlying23 rfl ti23 rfl rfl rfl rfl ?_
    refine S.neqS rfl rfl (by kernel_rfl) (Eq1.struct Try.underlying23 (by kernel_rfl) (EqF.cons (by decide) (Part1.one Try.underlying2 rfl rfl) (Part1.one Try.underlying2 rfl rfl) (Eq1.int Try.underlying2) (EqF.cons (by decide) (Part1.one Try.underlying3 rfl rfl) (Part1.one Try.underlying3 rfl rfl) (Eq1.int Try.underlying3) (EqF.one (by decide) (Part1.one Try.underlying2 rfl rfl) (Part1.one Try.underlying2 rfl rfl) (Eq1.int Try.underlying2))))) rfl ?_
    refine S.isFD (d := 46) rfl (by omega) ?_
    refine S.pickF rfl rfl ?_
    refine S.pickT rfl rfl ?_
    refine S.moveT rfl ?_
    refine S.moveT rfl ?_
    refine S.notD rfl rfl ?_
    refine S.moveT rfl ?_
    refine S.splitD (d := 52) rfl (fun c52 => ?_) (fun c52 => ?_)
    ·
      skip
      refine S.moveT rfl ?_
      refine S.neq rfl rfl rfl ?_
      refine S.isFD (d := 54) rfl (by omega) ?_
      refine S.moveT rfl ?_
      refine S.loadBA (i := 0) hS38 rfl Try.underlying23 rfl ti23 rfl rfl rfl rfl ?_
      refine S.buildZero ti23 rfl (by kernel_rfl) rfl ?_
      refine S.neqS rfl rfl (by kernel_rfl) (Eq1.struct Try.underlying23 (by kernel_rfl) (EqF.cons (by decide) (Part1.one Try.underlying2 rfl rfl) (Part1.one Try.underlying2 rfl rfl) (Eq1.int Try.underlying2) (EqF.cons (by decide) (Part1.one Try.underlying3 rfl rfl) (Part1.one Try.underlying3 rfl rfl) (Eq1.int Try.underlying3) (EqF.one (by decide) (Part1.one Try.underlying2 rfl rfl) (Part1.one Try.underlying2 rfl rfl) (Eq1.int Try.underlying2))))) rfl ?_
      refine S.isFD (d := 58) rfl (by omega) ?_
      refine S.pickF rfl rfl ?_
      refine S.pickT rfl rfl ?_
      refine S.pickF rfl rfl ?_
      refine WS.done ?_
      refine WR.condF rfl ?_
      refine WR.skip ?_
      refine WR.seq ?_
      refine WR.region rfl ?_
      refine S.fieldB Try.underlying25 rfl ti2 rfl rfl rfl rfl ?_
      refine S.loadB (i := 1) hS38 rfl Try.underlying2 rfl rfl rfl rfl ?_
      refine S.fieldB Try.underlying25 rfl ti2 rfl rfl rfl rfl ?_
      refine S.loadB (i := 1) hS38 rfl Try.underlying2 rfl rfl rfl rfl ?_
      refine S.buildStruct [.int _ _, .int _ _] [(0, 1), (1, 1)] Try.underlying33 ti33 rfl (by kernel_rfl) rfl rfl rfl rfl rfl rfl ?_
      refine S.alloc hS38 ti33 rfl rfl ?_
      intro b10 w10 hS10; clear hS38
      refine S.storeB (i := 0) hS10 rfl ti33 rfl rfl rfl rfl rfl rfl rfl rfl ?_
      intro w2002 hS2002; clear hS10
      refine WS.done ?_
      refine WR.seq ?_
      refine WR.region rfl ?_
      refine S.loadBA (i := 3) hS2002 rfl Try.underlying23 rfl ti23 rfl rfl rfl rfl ?_
      refine S.moveT rfl ?_
      refine S.call ent11 rfl (gr_span hS2002 (by exact hw) (by exact ht)) rfl ?_
      rintro _ w70 ⟨lo70, hi70, e70, rfl, hP70, hS70⟩
      clear hS2002
      refine S.moveT rfl ?_
      refine S.extract rfl rfl rfl ?_
      refine S.extract rfl rfl rfl ?_
      refine S.alloc hS70 ti25 rfl rfl ?_
      intro b11 w11 hS11; clear hS70
      refine S.storeB (i := 0) hS11 rfl ti25 rfl rfl rfl rfl rfl rfl rfl rfl ?_
      intro w2003 hS2003; clear hS11
      refine S.assignT rfl ?_
      refine WS.done ?_
      refine WR.seq ?_
      refine WR.region rfl ?_
      refine S.loadBA (i := 4) hS2003 rfl Try.underlying23 rfl ti23 rfl rfl rfl rfl ?_
      refine S.call ent10 rfl (l19_of hS2003 ) rfl ?_
      rintro _ w75 ⟨rfl, hS75⟩
      clear hS2003
      refine S.moveT rfl ?_
      refine S.call ent12 rfl (r19_span hS75 (by exact hw) (by exact ht)) rfl ?_
      rintro _ w77 ⟨lo77, hi77, e77, rfl, hP77, hS77⟩
      clear hS75
      have hs77 := hP70.same hP77
      refine S.moveT rfl ?_
      refine S.extract rfl rfl rfl ?_
      refine S.extract rfl rfl rfl ?_
      refine S.alloc hS77 ti33 rfl rfl ?_
      intro b13 w13 hS13; clear hS77
      refine S.storeB (i := 0) hS13 rfl ti33 rfl rfl rfl rfl rfl rfl rfl rfl ?_
      intro w2004 hS2004; clear hS13
      refine S.assignT rfl ?_
      refine WS.done ?_
      refine WR.seq ?_
      refine WR.region rfl ?_
      refine S.loadBA (i := 5) hS2004 rfl Try.underlying23 rfl ti23 rfl rfl rfl rfl ?_
      refine S.loadBA (i := 4) hS2004 rfl Try.underlying25 rfl ti25 rfl rfl rfl rfl ?_
      refine S.call ent13 rfl (gr_pick hS2004 (by exact ha) (by exact hb)) rfl ?_
      rintro _ w83 ⟨rfl, hS83⟩
      clear hS2004
      refine S.moveT rfl ?_
      refine S.extract rfl rfl rfl ?_
      refine S.extract rfl rfl rfl ?_
      refine S.assignT rfl ?_
      refine S.assignT rfl ?_
      refine WS.done ?_
      refine WR.seq ?_
      refine WR.regionQ mixed hS83 (by kernel_rfl) rfl ?_
      refine Q.loadBA (i := 5) rfl Try.underlying23 rfl ti23 rfl rfl rfl rfl ?_
      refine Q.call ent10 rfl (fun w hQ => l19_of hQ ) rfl ?_
      refine Q.loadBA (i := 2) rfl Try.underlying33 rfl ti33 rfl rfl rfl rfl ?_
      refine Q.call ent14 rfl (fun w hQ => r19_pick hQ (by exact ha) (by exact hb) (by exact hm)) rfl ?_
      refine Q.moveT rfl ?_
      refine Q.extract rfl rfl rfl ?_
      refine Q.extract rfl rfl rfl ?_
      refine Q.assignT rfl ?_
      refine Q.assignT rfl ?_
      refine WQ.done ?_
      intro w5005 hS5005
      clear hS83
      refine WR.seq ?_
      refine WR.region rfl ?_
      refine S.loadBA (i := 5) hS5005 rfl Try.underlying23 rfl ti23 rfl rfl rfl rfl ?_
      refine S.loadBA (i := 4) hS5005 rfl Try.underlying25 rfl ti25 rfl rfl rfl rfl ?_
      refine S.call ent15 rfl (gr_meets hS5005 (by exact ha) (by exact hb)) rfl ?_
      rintro _ w96 ⟨rfl, hS96⟩
      clear hS5005
      refine S.moveT rfl ?_
      refine S.extract rfl rfl rfl ?_
      refine S.extract rfl rfl rfl ?_
      refine S.extract rfl rfl rfl ?_
      refine S.assignT rfl ?_
      refine S.assignT rfl ?_
      refine S.assignT rfl ?_
      refine WS.done ?_
      refine WR.seq ?_
      refine WR.seq ?_
      refine WR.regionQ mixed hS96 (by kernel_rfl) rfl ?_
      refine Q.loadBA (i := 5) rfl Try.underlying23 rfl ti23 rfl rfl rfl rfl ?_
      refine Q.moveT rfl ?_
      refine Q.call ent16 rfl (fun w hQ => gr_window hQ (by exact ht)) rfl ?_
      refine Q.loadBA (i := 5) rfl Try.underlying23 rfl ti23 rfl rfl rfl rfl ?_
      refine Q.call ent10 rfl (fun w hQ => l19_of hQ ) rfl ?_
      refine Q.moveT rfl ?_
      refine Q.call ent17 rfl (fun w hQ => r19_window hQ (by exact ht)) rfl ?_
      refine Q.neq rfl rfl rfl ?_
      refine Q.isFD (d := 107) rfl (by exact fun h => h rfl) ?_
      refine Q.moveT rfl ?_
      refine Q.moveT rfl ?_
      refine Q.moveT rfl ?_
      refine Q.neq rfl rfl rfl ?_
      refine Q.isFD (d := 111) rfl (by omega) ?_
      refine Q.pickF rfl rfl ?_
      refine Q.moveT rfl ?_
      refine Q.fieldB Try.underlying25 rfl ti2 rfl rfl rfl rfl ?_
      refine Q.loadB (i := 1) rfl Try.underlying2 rfl rfl rfl rfl ?_
      refine Q.fieldB Try.underlying33 rfl ti2 rfl rfl rfl rfl ?_
      refine Q.loadB (i := 0) rfl Try.underlying2 rfl rfl rfl rfl ?_
      refine Q.neq rfl rfl rfl ?_
      refine Q.isFD (d := 118) rfl (by omega) ?_
      refine Q.pickF rfl rfl ?_
      refine Q.moveT rfl ?_
      refine Q.fieldB Try.underlying25 rfl ti2 rfl rfl rfl rfl ?_
      refine Q.loadB (i := 1) rfl Try.underlying2 rfl rfl rfl rfl ?_
      refine Q.fieldB Try.underlying33 rfl ti2 rfl rfl rfl rfl ?_
      refine Q.loadB (i := 0) rfl Try.underlying2 rfl rfl rfl rfl ?_
      refine Q.neq rfl rfl rfl ?_
      refine Q.isFD (d := 125) rfl (by omega) ?_
      refine Q.pickF rfl rfl ?_
      refine Q.moveT rfl ?_
      refine Q.moveT rfl ?_
      refine Q.moveT rfl ?_
      refine Q.neq rfl rfl rfl ?_
      refine Q.isFD (d := 130) rfl (by exact fun h => h rfl) ?_
      refine Q.pickF rfl rfl ?_
      refine Q.moveT rfl ?_
      refine Q.moveT rfl ?_
      refine Q.moveT rfl ?_
      refine Q.neq rfl rfl rfl ?_
      refine Q.isFD (d := 135) rfl (by exact fun h => h rfl) ?_
      refine Q.pickF rfl rfl ?_
      refine WQ.done ?_
      intro w5006 hS5006
      clear hS96
      refine WR.condF rfl ?_
      refine WR.skip ?_
      refine WR.seq ?_
      refine WR.seq ?_
      refine WR.region rfl ?_
      refine S.moveT rfl ?_
      refine S.notD rfl rfl ?_
      refine WS.done ?_
      refine WR.condD rfl (fun c138 => ?_) (fun c138 => ?_)
      ·
        skip
        refine WR.seq ?_
        refine WR.region rfl ?_
        refine S.moveT rfl ?_
        refine S.eql rfl rfl rfl ?_
        refine S.isTD (d := 140) rfl (by omega) ?_
        refine S.moveT rfl ?_
        refine S.moveT rfl ?_
        refine S.eql rfl rfl rfl ?_
        refine S.isTD (d := 143) rfl (by omega) ?_
        refine S.pickT rfl rfl ?_
        refine S.moveT rfl ?_
        refine S.moveT rfl ?_
        refine S.eql rfl rfl rfl ?_
        refine S.isTD (d := 147) rfl (by omega) ?_
        refine S.pickT rfl rfl ?_
        refine S.moveT rfl ?_
        refine S.loadBA (i := 5) hS5006 rfl Try.underlying23 rfl ti23 rfl rfl rfl rfl ?_
        refine S.loadBA (i := 4) hS5006 rfl Try.underlying25 rfl ti25 rfl rfl rfl rfl ?_
        refine S.call ent18 rfl (gr_certain hS5006 (by exact ha) (by exact hb)) rfl ?_
        rintro _ w152 ⟨rfl, hS152⟩
        clear hS5006
        refine S.isFD (d := 152) rfl (by omega) ?_
        refine S.not rfl rfl ?_
        refine S.pickT rfl rfl ?_
        refine S.assignT rfl ?_
        refine WS.done ?_
        refine WR.ret (ret1 rfl rfl ?_)
        exact ⟨rfl, hS152.drop.drop.drop.drop.drop.drop⟩
      ·
        skip
        refine WR.skip ?_
        refine WR.seq ?_
        refine WR.seq ?_
        refine WR.region rfl ?_
        refine S.loadBA (i := 2) hS5006 rfl Try.underlying33 rfl ti33 rfl rfl rfl rfl ?_
        refine S.call ent19 rfl (r3_right hS5006 ) rfl ?_
        rintro _ w156 ⟨rfl, hS156⟩
        clear hS5006
        refine S.notD rfl rfl ?_
        refine WS.done ?_
        refine WR.condD rfl (fun c157 => ?_) (fun c157 => ?_)
        ·
          skip
          refine WR.seq ?_
          refine WR.region rfl ?_
          refine S.moveT rfl ?_
          refine S.eql rfl rfl rfl ?_
          refine S.isTD (d := 159) rfl (by omega) ?_
          refine S.moveT rfl ?_
          refine S.moveT rfl ?_
          refine S.eql rfl rfl rfl ?_
          refine S.isTD (d := 162) rfl (by omega) ?_
          refine S.pickT rfl rfl ?_
          refine S.moveT rfl ?_
          refine S.moveT rfl ?_
          refine S.eql rfl rfl rfl ?_
          refine S.isTD (d := 166) rfl (by omega) ?_
          refine S.pickT rfl rfl ?_
          refine S.moveT rfl ?_
          refine S.loadBA (i := 5) hS156 rfl Try.underlying23 rfl ti23 rfl rfl rfl rfl ?_
          refine S.loadBA (i := 4) hS156 rfl Try.underlying25 rfl ti25 rfl rfl rfl rfl ?_
          refine S.call ent18 rfl (gr_certain hS156 (by exact ha) (by exact hb)) rfl ?_
          rintro _ w171 ⟨rfl, hS171⟩
          clear hS156
          refine S.isFD (d := 171) rfl (by omega) ?_
          refine S.not rfl rfl ?_
          refine S.pickT rfl rfl ?_
          refine S.assignT rfl ?_
          refine WS.done ?_
          refine WR.ret (ret1 rfl rfl ?_)
          exact ⟨rfl, hS171.drop.drop.drop.drop.drop.drop⟩
        ·
          skip
          refine WR.skip ?_
          refine WR.seq ?_
          refine WR.regionQ mixed hS156 (by kernel_rfl) rfl ?_
          refine Q.loadBA (i := 5) rfl Try.underlying23 rfl ti23 rfl rfl rfl rfl ?_
          refine Q.call ent10 rfl (fun w hQ => l19_of hQ ) rfl ?_
          refine Q.fieldB Try.underlying25 rfl ti2 rfl rfl rfl rfl ?_
          refine Q.loadB (i := 4) rfl Try.underlying2 rfl rfl rfl rfl ?_
          refine Q.call ent17 rfl (fun w hQ => r19_window hQ (by exact ha)) rfl ?_
          refine Q.assignT rfl ?_
          refine WQ.done ?_
          intro w5007 hS5007
          clear hS156
          refine WR.seq ?_
          refine WR.regionQ mixed hS5007 (by kernel_rfl) rfl ?_
          refine Q.loadBA (i := 5) rfl Try.underlying23 rfl ti23 rfl rfl rfl rfl ?_
          refine Q.call ent10 rfl (fun w hQ => l19_of hQ ) rfl ?_
          refine Q.fieldB Try.underlying25 rfl ti2 rfl rfl rfl rfl ?_
          refine Q.loadB (i := 4) rfl Try.underlying2 rfl rfl rfl rfl ?_
          refine Q.call ent17 rfl (fun w hQ => r19_window hQ (by exact hb)) rfl ?_
          refine Q.assignT rfl ?_
          refine WQ.done ?_
          intro w5008 hS5008
          clear hS5007
          refine WR.seq ?_
          refine WR.region rfl ?_
          refine S.moveT rfl ?_
          refine S.eql rfl rfl rfl ?_
          refine S.isTD (d := 185) rfl (by omega) ?_
          refine S.moveT rfl ?_
          refine S.moveT rfl ?_
          refine S.moveT rfl ?_
          refine S.eql rfl rfl rfl ?_
          refine S.isTD (d := 189) rfl (by omega) ?_
          refine S.pickT rfl rfl ?_
          refine S.moveT rfl ?_
          refine S.moveT rfl ?_
          refine S.moveT rfl ?_
          refine S.eql rfl rfl rfl ?_
          refine S.isTD (d := 194) rfl (by omega) ?_
          refine S.pickT rfl rfl ?_
          refine S.moveT rfl ?_
          refine S.loadBA (i := 5) hS5008 rfl Try.underlying23 rfl ti23 rfl rfl rfl rfl ?_
          refine S.loadBA (i := 4) hS5008 rfl Try.underlying25 rfl ti25 rfl rfl rfl rfl ?_
          refine S.call ent18 rfl (gr_certain hS5008 (by exact ha) (by exact hb)) rfl ?_
          rintro _ w199 ⟨rfl, hS199⟩
          clear hS5008
          refine S.moveT rfl ?_
          refine S.moveT rfl ?_
          refine S.eql rfl rfl rfl ?_
          refine S.eqlB Try.underlying4 rfl rfl rfl ?_
          refine S.isB (d := 203) (c := true) rfl (by rw [beq_iff_eq]; first | exact decide_eq_decide.2 (by omega) | exact decide_eq_false (by omega) | exact decide_eq_true (by omega) | exact (decide_eq_false (by omega)).symm) ?_
          refine S.pickT rfl rfl ?_
          refine S.assignT rfl ?_
          refine WS.done ?_
          refine WR.ret (ret1 rfl rfl ?_)
          exact ⟨rfl, hS199.drop.drop.drop.drop.drop.drop⟩
    ·
      skip
      refine S.off rfl ?_
      refine S.off rfl ?_
      refine S.off rfl ?_
      refine S.off rfl ?_
      refine S.off rfl ?_
      refine S.off rfl ?_
      refine S.off rfl ?_
      refine S.pickFC rfl rfl ?_
      refine S.pickF rfl rfl ?_
      refine WS.done ?_
      refine WR.condF rfl ?_
      refine WR.skip ?_
      refine WR.seq ?_
      refine WR.region rfl ?_
      refine S.fieldB Try.underlying25 rfl ti2 rfl rfl rfl rfl ?_
      refine S.loadB (i := 1) hS38 rfl Try.underlying2 rfl rfl rfl rfl ?_
      refine S.fieldB Try.underlying25 rfl ti2 rfl rfl rfl rfl ?_
      refine S.loadB (i := 1) hS38 rfl Try.underlying2 rfl rfl rfl rfl ?_
      refine S.buildStruct [.int _ _, .int _ _] [(0, 1), (1, 1)] Try.underlying33 ti33 rfl (by kernel_rfl) rfl rfl rfl rfl rfl rfl ?_
      refine S.alloc hS38 ti33 rfl rfl ?_
      intro b10 w10 hS10; clear hS38
      refine S.storeB (i := 0) hS10 rfl ti33 rfl rfl rfl rfl rfl rfl rfl rfl ?_
      intro w2009 hS2009; clear hS10
      refine WS.done ?_
      refine WR.seq ?_
      refine WR.region rfl ?_
      refine S.loadBA (i := 3) hS2009 rfl Try.underlying23 rfl ti23 rfl rfl rfl rfl ?_
      refine S.moveT rfl ?_
      refine S.call ent11 rfl (gr_span hS2009 (by exact hw) (by exact ht)) rfl ?_
      rintro _ w70 ⟨lo70, hi70, e70, rfl, hP70, hS70⟩
      clear hS2009
      refine S.moveT rfl ?_
      refine S.extract rfl rfl rfl ?_
      refine S.extract rfl rfl rfl ?_
      refine S.alloc hS70 ti25 rfl rfl ?_
      intro b11 w11 hS11; clear hS70
      refine S.storeB (i := 0) hS11 rfl ti25 rfl rfl rfl rfl rfl rfl rfl rfl ?_
      intro w2010 hS2010; clear hS11
      refine S.assignT rfl ?_
      refine WS.done ?_
      refine WR.seq ?_
      refine WR.region rfl ?_
      refine S.loadBA (i := 4) hS2010 rfl Try.underlying23 rfl ti23 rfl rfl rfl rfl ?_
      refine S.call ent10 rfl (l19_of hS2010 ) rfl ?_
      rintro _ w75 ⟨rfl, hS75⟩
      clear hS2010
      refine S.moveT rfl ?_
      refine S.call ent12 rfl (r19_span hS75 (by exact hw) (by exact ht)) rfl ?_
      rintro _ w77 ⟨lo77, hi77, e77, rfl, hP77, hS77⟩
      clear hS75
      have hs77 := hP70.same hP77
      refine S.moveT rfl ?_
      refine S.extract rfl rfl rfl ?_
      refine S.extract rfl rfl rfl ?_
      refine S.alloc hS77 ti33 rfl rfl ?_
      intro b13 w13 hS13; clear hS77
      refine S.storeB (i := 0) hS13 rfl ti33 rfl rfl rfl rfl rfl rfl rfl rfl ?_
      intro w2011 hS2011; clear hS13
      refine S.assignT rfl ?_
      refine WS.done ?_
      refine WR.seq ?_
      refine WR.region rfl ?_
      refine S.loadBA (i := 5) hS2011 rfl Try.underlying23 rfl ti23 rfl rfl rfl rfl ?_
      refine S.loadBA (i := 4) hS2011 rfl Try.underlying25 rfl ti25 rfl rfl rfl rfl ?_
      refine S.call ent13 rfl (gr_pick hS2011 (by exact ha) (by exact hb)) rfl ?_
      rintro _ w83 ⟨rfl, hS83⟩
      clear hS2011
      refine S.moveT rfl ?_
      refine S.extract rfl rfl rfl ?_
      refine S.extract rfl rfl rfl ?_
      refine S.assignT rfl ?_
      refine S.assignT rfl ?_
      refine WS.done ?_
      refine WR.seq ?_
      refine WR.regionQ mixed hS83 (by kernel_rfl) rfl ?_
      refine Q.loadBA (i := 5) rfl Try.underlying23 rfl ti23 rfl rfl rfl rfl ?_
      refine Q.call ent10 rfl (fun w hQ => l19_of hQ ) rfl ?_
      refine Q.loadBA (i := 2) rfl Try.underlying33 rfl ti33 rfl rfl rfl rfl ?_
      refine Q.call ent14 rfl (fun w hQ => r19_pick hQ (by exact ha) (by exact hb) (by exact hm)) rfl ?_
      refine Q.moveT rfl ?_
      refine Q.extract rfl rfl rfl ?_
      refine Q.extract rfl rfl rfl ?_
      refine Q.assignT rfl ?_
      refine Q.assignT rfl ?_
      refine WQ.done ?_
      intro w5012 hS5012
      clear hS83
      refine WR.seq ?_
      refine WR.region rfl ?_
      refine S.loadBA (i := 5) hS5012 rfl Try.underlying23 rfl ti23 rfl rfl rfl rfl ?_
      refine S.loadBA (i := 4) hS5012 rfl Try.underlying25 rfl ti25 rfl rfl rfl rfl ?_
      refine S.call ent15 rfl (gr_meets hS5012 (by exact ha) (by exact hb)) rfl ?_
      rintro _ w96 ⟨rfl, hS96⟩
      clear hS5012
      refine S.moveT rfl ?_
      refine S.extract rfl rfl rfl ?_
      refine S.extract rfl rfl rfl ?_
      refine S.extract rfl rfl rfl ?_
      refine S.assignT rfl ?_
      refine S.assignT rfl ?_
      refine S.assignT rfl ?_
      refine WS.done ?_
      refine WR.seq ?_
      refine WR.seq ?_
      refine WR.regionQ mixed hS96 (by kernel_rfl) rfl ?_
      refine Q.loadBA (i := 5) rfl Try.underlying23 rfl ti23 rfl rfl rfl rfl ?_
      refine Q.moveT rfl ?_
      refine Q.call ent16 rfl (fun w hQ => gr_window hQ (by exact ht)) rfl ?_
      refine Q.loadBA (i := 5) rfl Try.underlying23 rfl ti23 rfl rfl rfl rfl ?_
      refine Q.call ent10 rfl (fun w hQ => l19_of hQ ) rfl ?_
      refine Q.moveT rfl ?_
      refine Q.call ent17 rfl (fun w hQ => r19_window hQ (by exact ht)) rfl ?_
      refine Q.neq rfl rfl rfl ?_
      refine Q.isFD (d := 107) rfl (by exact fun h => h rfl) ?_
      refine Q.moveT rfl ?_
      refine Q.moveT rfl ?_
      refine Q.moveT rfl ?_
      refine Q.neq rfl rfl rfl ?_
      refine Q.isFD (d := 111) rfl (by omega) ?_
      refine Q.pickF rfl rfl ?_
      refine Q.moveT rfl ?_
      refine Q.fieldB Try.underlying25 rfl ti2 rfl rfl rfl rfl ?_
      refine Q.loadB (i := 1) rfl Try.underlying2 rfl rfl rfl rfl ?_
      refine Q.fieldB Try.underlying33 rfl ti2 rfl rfl rfl rfl ?_
      refine Q.loadB (i := 0) rfl Try.underlying2 rfl rfl rfl rfl ?_
      refine Q.neq rfl rfl rfl ?_
      refine Q.isFD (d := 118) rfl (by omega) ?_
      refine Q.pickF rfl rfl ?_
      refine Q.moveT rfl ?_
      refine Q.fieldB Try.underlying25 rfl ti2 rfl rfl rfl rfl ?_
      refine Q.loadB (i := 1) rfl Try.underlying2 rfl rfl rfl rfl ?_
      refine Q.fieldB Try.underlying33 rfl ti2 rfl rfl rfl rfl ?_
      refine Q.loadB (i := 0) rfl Try.underlying2 rfl rfl rfl rfl ?_
      refine Q.neq rfl rfl rfl ?_
      refine Q.isFD (d := 125) rfl (by omega) ?_
      refine Q.pickF rfl rfl ?_
      refine Q.moveT rfl ?_
      refine Q.moveT rfl ?_
      refine Q.moveT rfl ?_
      refine Q.neq rfl rfl rfl ?_
      refine Q.isFD (d := 130) rfl (by exact fun h => h rfl) ?_
      refine Q.pickF rfl rfl ?_
      refine Q.moveT rfl ?_
      refine Q.moveT rfl ?_
      refine Q.moveT rfl ?_
      refine Q.neq rfl rfl rfl ?_
      refine Q.isFD (d := 135) rfl (by exact fun h => h rfl) ?_
      refine Q.pickF rfl rfl ?_
      refine WQ.done ?_
      intro w5013 hS5013
      clear hS96
      refine WR.condF rfl ?_
      refine WR.skip ?_
      refine WR.seq ?_
      refine WR.seq ?_
      refine WR.region rfl ?_
      refine S.moveT rfl ?_
      refine S.notD rfl rfl ?_
      refine WS.done ?_
      refine WR.condD rfl (fun c138 => ?_) (fun c138 => ?_)
      ·
        skip
        refine WR.seq ?_
        refine WR.region rfl ?_
        refine S.moveT rfl ?_
        refine S.eql rfl rfl rfl ?_
        refine S.isTD (d := 140) rfl (by omega) ?_
        refine S.moveT rfl ?_
        refine S.moveT rfl ?_
        refine S.eql rfl rfl rfl ?_
        refine S.isTD (d := 143) rfl (by omega) ?_
        refine S.pickT rfl rfl ?_
        refine S.moveT rfl ?_
        refine S.moveT rfl ?_
        refine S.eql rfl rfl rfl ?_
        refine S.isTD (d := 147) rfl (by omega) ?_
        refine S.pickT rfl rfl ?_
        refine S.moveT rfl ?_
        refine S.loadBA (i := 5) hS5013 rfl Try.underlying23 rfl ti23 rfl rfl rfl rfl ?_
        refine S.loadBA (i := 4) hS5013 rfl Try.underlying25 rfl ti25 rfl rfl rfl rfl ?_
        refine S.call ent18 rfl (gr_certain hS5013 (by exact ha) (by exact hb)) rfl ?_
        rintro _ w152 ⟨rfl, hS152⟩
        clear hS5013
        refine S.isFD (d := 152) rfl (by omega) ?_
        refine S.not rfl rfl ?_
        refine S.pickT rfl rfl ?_
        refine S.assignT rfl ?_
        refine WS.done ?_
        refine WR.ret (ret1 rfl rfl ?_)
        exact ⟨rfl, hS152.drop.drop.drop.drop.drop.drop⟩
      ·
        skip
        refine WR.skip ?_
        refine WR.seq ?_
        refine WR.seq ?_
        refine WR.region rfl ?_
        refine S.loadBA (i := 2) hS5013 rfl Try.underlying33 rfl ti33 rfl rfl rfl rfl ?_
        refine S.call ent19 rfl (r3_right hS5013 ) rfl ?_
        rintro _ w156 ⟨rfl, hS156⟩
        clear hS5013
        refine S.notD rfl rfl ?_
        refine WS.done ?_
        refine WR.condD rfl (fun c157 => ?_) (fun c157 => ?_)
        ·
          skip
          refine WR.seq ?_
          refine WR.region rfl ?_
          refine S.moveT rfl ?_
          refine S.eql rfl rfl rfl ?_
          refine S.isTD (d := 159) rfl (by omega) ?_
          refine S.moveT rfl ?_
          refine S.moveT rfl ?_
          refine S.eql rfl rfl rfl ?_
          refine S.isTD (d := 162) rfl (by omega) ?_
          refine S.pickT rfl rfl ?_
          refine S.moveT rfl ?_
          refine S.moveT rfl ?_
          refine S.eql rfl rfl rfl ?_
          refine S.isTD (d := 166) rfl (by omega) ?_
          refine S.pickT rfl rfl ?_
          refine S.moveT rfl ?_
          refine S.loadBA (i := 5) hS156 rfl Try.underlying23 rfl ti23 rfl rfl rfl rfl ?_
          refine S.loadBA (i := 4) hS156 rfl Try.underlying25 rfl ti25 rfl rfl rfl rfl ?_
          refine S.call ent18 rfl (gr_certain hS156 (by exact ha) (by exact hb)) rfl ?_
          rintro _ w171 ⟨rfl, hS171⟩
          clear hS156
          refine S.isFD (d := 171) rfl (by omega) ?_
          refine S.not rfl rfl ?_
          refine S.pickT rfl rfl ?_
          refine S.assignT rfl ?_
          refine WS.done ?_
          refine WR.ret (ret1 rfl rfl ?_)
          exact ⟨rfl, hS171.drop.drop.drop.drop.drop.drop⟩
        ·
          skip
          refine WR.skip ?_
          refine WR.seq ?_
          refine WR.regionQ mixed hS156 (by kernel_rfl) rfl ?_
          refine Q.loadBA (i := 5) rfl Try.underlying23 rfl ti23 rfl rfl rfl rfl ?_
          refine Q.call ent10 rfl (fun w hQ => l19_of hQ ) rfl ?_
          refine Q.fieldB Try.underlying25 rfl ti2 rfl rfl rfl rfl ?_
          refine Q.loadB (i := 4) rfl Try.underlying2 rfl rfl rfl rfl ?_
          refine Q.call ent17 rfl (fun w hQ => r19_window hQ (by exact ha)) rfl ?_
          refine Q.assignT rfl ?_
          refine WQ.done ?_
          intro w5014 hS5014
          clear hS156
          refine WR.seq ?_
          refine WR.regionQ mixed hS5014 (by kernel_rfl) rfl ?_
          refine Q.loadBA (i := 5) rfl Try.underlying23 rfl ti23 rfl rfl rfl rfl ?_
          refine Q.call ent10 rfl (fun w hQ => l19_of hQ ) rfl ?_
          refine Q.fieldB Try.underlying25 rfl ti2 rfl rfl rfl rfl ?_
          refine Q.loadB (i := 4) rfl Try.underlying2 rfl rfl rfl rfl ?_
          refine Q.call ent17 rfl (fun w hQ => r19_window hQ (by exact hb)) rfl ?_
          refine Q.assignT rfl ?_
          refine WQ.done ?_
          intro w5015 hS5015
          clear hS5014
          refine WR.seq ?_
          refine WR.region rfl ?_
          refine S.moveT rfl ?_
          refine S.eql rfl rfl rfl ?_
          refine S.isTD (d := 185) rfl (by omega) ?_
          refine S.moveT rfl ?_
          refine S.moveT rfl ?_
          refine S.moveT rfl ?_
          refine S.eql rfl rfl rfl ?_
          refine S.isTD (d := 189) rfl (by omega) ?_
          refine S.pickT rfl rfl ?_
          refine S.moveT rfl ?_
          refine S.moveT rfl ?_
          refine S.moveT rfl ?_
          refine S.eql rfl rfl rfl ?_
          refine S.isTD (d := 194) rfl (by omega) ?_
          refine S.pickT rfl rfl ?_
          refine S.moveT rfl ?_
          refine S.loadBA (i := 5) hS5015 rfl Try.underlying23 rfl ti23 rfl rfl rfl rfl ?_
          refine S.loadBA (i := 4) hS5015 rfl Try.underlying25 rfl ti25 rfl rfl rfl rfl ?_
          refine S.call ent18 rfl (gr_certain hS5015 (by exact ha) (by exact hb)) rfl ?_
          rintro _ w199 ⟨rfl, hS199⟩
          clear hS5015
          refine S.moveT rfl ?_
          refine S.moveT rfl ?_
          refine S.eql rfl rfl rfl ?_
          refine S.eqlB Try.underlying4 rfl rfl rfl ?_
          refine S.isB (d := 203) (c := true) rfl (by rw [beq_iff_eq]; first | exact decide_eq_decide.2 (by omega) | exact decide_eq_false (by omega) | exact decide_eq_true (by omega) | exact (decide_eq_false (by omega)).symm) ?_
          refine S.pickT rfl rfl ?_
          refine S.assignT rfl ?_
          refine WS.done ?_
          refine WR.ret (ret1 rfl rfl ?_)
          exact ⟨rfl, hS199.drop.drop.drop.drop.drop.drop⟩
  ·
    skip
    refine S.off rfl ?_
    refine S.off rfl ?_
    refine S.off rfl ?_
    refine S.off rfl ?_
    refine S.off rfl ?_
    refine S.off rfl ?_
    refine S.off rfl ?_
    refine S.pickFC rfl rfl ?_
    refine S.moveT rfl ?_
    refine S.moveT rfl ?_
    refine S.notD rfl rfl ?_
    refine S.moveT rfl ?_
    refine S.splitD (d := 52) rfl (fun c52 => ?_) (fun c52 => ?_)
    ·
      skip
      refine S.moveT rfl ?_
      refine S.neq rfl rfl rfl ?_
      refine S.isFD (d := 54) rfl (by omega) ?_
      refine S.moveT rfl ?_
      refine S.loadBA (i := 0) hS38 rfl Try.underlying23 rfl ti23 rfl rfl rfl rfl ?_
      refine S.buildZero ti23 rfl (by kernel_rfl) rfl ?_
      refine S.neqS rfl rfl (by kernel_rfl) (Eq1.struct Try.underlying23 (by kernel_rfl) (EqF.cons (by decide) (Part1.one Try.underlying2 rfl rfl) (Part1.one Try.underlying2 rfl rfl) (Eq1.int Try.underlying2) (EqF.cons (by decide) (Part1.one Try.underlying3 rfl rfl) (Part1.one Try.underlying3 rfl rfl) (Eq1.int Try.underlying3) (EqF.one (by decide) (Part1.one Try.underlying2 rfl rfl) (Part1.one Try.underlying2 rfl rfl) (Eq1.int Try.underlying2))))) rfl ?_
      refine S.isFD (d := 58) rfl (by omega) ?_
      refine S.pickF rfl rfl ?_
      refine S.pickT rfl rfl ?_
      refine S.pickF rfl rfl ?_
      refine WS.done ?_
      refine WR.condF rfl ?_
      refine WR.skip ?_
      refine WR.seq ?_
      refine WR.region rfl ?_
      refine S.fieldB Try.underlying25 rfl ti2 rfl rfl rfl rfl ?_
      refine S.loadB (i := 1) hS38 rfl Try.underlying2 rfl rfl rfl rfl ?_
      refine S.fieldB Try.underlying25 rfl ti2 rfl rfl rfl rfl ?_
      refine S.loadB (i := 1) hS38 rfl Try.underlying2 rfl rfl rfl rfl ?_
      refine S.buildStruct [.int _ _, .int _ _] [(0, 1), (1, 1)] Try.underlying33 ti33 rfl (by kernel_rfl) rfl rfl rfl rfl rfl rfl ?_
      refine S.alloc hS38 ti33 rfl rfl ?_
      intro b10 w10 hS10; clear hS38
      refine S.storeB (i := 0) hS10 rfl ti33 rfl rfl rfl rfl rfl rfl rfl rfl ?_
      intro w2016 hS2016; clear hS10
      refine WS.done ?_
      refine WR.seq ?_
      refine WR.region rfl ?_
      refine S.loadBA (i := 3) hS2016 rfl Try.underlying23 rfl ti23 rfl rfl rfl rfl ?_
      refine S.moveT rfl ?_
      refine S.call ent11 rfl (gr_span hS2016 (by exact hw) (by exact ht)) rfl ?_
      rintro _ w70 ⟨lo70, hi70, e70, rfl, hP70, hS70⟩
      clear hS2016
      refine S.moveT rfl ?_
      refine S.extract rfl rfl rfl ?_
      refine S.extract rfl rfl rfl ?_
      refine S.alloc hS70 ti25 rfl rfl ?_
      intro b11 w11 hS11; clear hS70
      refine S.storeB (i := 0) hS11 rfl ti25 rfl rfl rfl rfl rfl rfl rfl rfl ?_
      intro w2017 hS2017; clear hS11
      refine S.assignT rfl ?_
      refine WS.done ?_
      refine WR.seq ?_
      refine WR.region rfl ?_
      refine S.loadBA (i := 4) hS2017 rfl Try.underlying23 rfl ti23 rfl rfl rfl rfl ?_
      refine S.call ent10 rfl (l19_of hS2017 ) rfl ?_
      rintro _ w75 ⟨rfl, hS75⟩
      clear hS2017
      refine S.moveT rfl ?_
      refine S.call ent12 rfl (r19_span hS75 (by exact hw) (by exact ht)) rfl ?_
      rintro _ w77 ⟨lo77, hi77, e77, rfl, hP77, hS77⟩
      clear hS75
      have hs77 := hP70.same hP77
      refine S.moveT rfl ?_
      refine S.extract rfl rfl rfl ?_
      refine S.extract rfl rfl rfl ?_
      refine S.alloc hS77 ti33 rfl rfl ?_
      intro b13 w13 hS13; clear hS77
      refine S.storeB (i := 0) hS13 rfl ti33 rfl rfl rfl rfl rfl rfl rfl rfl ?_
      intro w2018 hS2018; clear hS13
      refine S.assignT rfl ?_
      refine WS.done ?_
      refine WR.seq ?_
      refine WR.region rfl ?_
      refine S.loadBA (i := 5) hS2018 rfl Try.underlying23 rfl ti23 rfl rfl rfl rfl ?_
      refine S.loadBA (i := 4) hS2018 rfl Try.underlying25 rfl ti25 rfl rfl rfl rfl ?_
      refine S.call ent13 rfl (gr_pick hS2018 (by exact ha) (by exact hb)) rfl ?_
      rintro _ w83 ⟨rfl, hS83⟩
      clear hS2018
      refine S.moveT rfl ?_
      refine S.extract rfl rfl rfl ?_
      refine S.extract rfl rfl rfl ?_
      refine S.assignT rfl ?_
      refine S.assignT rfl ?_
      refine WS.done ?_
      refine WR.seq ?_
      refine WR.regionQ mixed hS83 (by kernel_rfl) rfl ?_
      refine Q.loadBA (i := 5) rfl Try.underlying23 rfl ti23 rfl rfl rfl rfl ?_
      refine Q.call ent10 rfl (fun w hQ => l19_of hQ ) rfl ?_
      refine Q.loadBA (i := 2) rfl Try.underlying33 rfl ti33 rfl rfl rfl rfl ?_
      refine Q.call ent14 rfl (fun w hQ => r19_pick hQ (by exact ha) (by exact hb) (by exact hm)) rfl ?_
      refine Q.moveT rfl ?_
      refine Q.extract rfl rfl rfl ?_
      refine Q.extract rfl rfl rfl ?_
      refine Q.assignT rfl ?_
      refine Q.assignT rfl ?_
      refine WQ.done ?_
      intro w5019 hS5019
      clear hS83
      refine WR.seq ?_
      refine WR.region rfl ?_
      refine S.loadBA (i := 5) hS5019 rfl Try.underlying23 rfl ti23 rfl rfl rfl rfl ?_
      refine S.loadBA (i := 4) hS5019 rfl Try.underlying25 rfl ti25 rfl rfl rfl rfl ?_
      refine S.call ent15 rfl (gr_meets hS5019 (by exact ha) (by exact hb)) rfl ?_
      rintro _ w96 ⟨rfl, hS96⟩
      clear hS5019
      refine S.moveT rfl ?_
      refine S.extract rfl rfl rfl ?_
      refine S.extract rfl rfl rfl ?_
      refine S.extract rfl rfl rfl ?_
      refine S.assignT rfl ?_
      refine S.assignT rfl ?_
      refine S.assignT rfl ?_
      refine WS.done ?_
      refine WR.seq ?_
      refine WR.seq ?_
      refine WR.regionQ mixed hS96 (by kernel_rfl) rfl ?_
      refine Q.loadBA (i := 5) rfl Try.underlying23 rfl ti23 rfl rfl rfl rfl ?_
      refine Q.moveT rfl ?_
      refine Q.call ent16 rfl (fun w hQ => gr_window hQ (by exact ht)) rfl ?_
      refine Q.loadBA (i := 5) rfl Try.underlying23 rfl ti23 rfl rfl rfl rfl ?_
      refine Q.call ent10 rfl (fun w hQ => l19_of hQ ) rfl ?_
      refine Q.moveT rfl ?_
      refine Q.call ent17 rfl (fun w hQ => r19_window hQ (by exact ht)) rfl ?_
      refine Q.neq rfl rfl rfl ?_
      refine Q.isFD (d := 107) rfl (by exact fun h => h rfl) ?_
      refine Q.moveT rfl ?_
      refine Q.moveT rfl ?_
      refine Q.moveT rfl ?_
      refine Q.neq rfl rfl rfl ?_
      refine Q.isFD (d := 111) rfl (by omega) ?_
      refine Q.pickF rfl rfl ?_
      refine Q.moveT rfl ?_
      refine Q.fieldB Try.underlying25 rfl ti2 rfl rfl rfl rfl ?_
      refine Q.loadB (i := 1) rfl Try.underlying2 rfl rfl rfl rfl ?_
      refine Q.fieldB Try.underlying33 rfl ti2 rfl rfl rfl rfl ?_
      refine Q.loadB (i := 0) rfl Try.underlying2 rfl rfl rfl rfl ?_
      refine Q.neq rfl rfl rfl ?_
      refine Q.isFD (d := 118) rfl (by omega) ?_
      refine Q.pickF rfl rfl ?_
      refine Q.moveT rfl ?_
      refine Q.fieldB Try.underlying25 rfl ti2 rfl rfl rfl rfl ?_
      refine Q.loadB (i := 1) rfl Try.underlying2 rfl rfl rfl rfl ?_
      refine Q.fieldB Try.underlying33 rfl ti2 rfl rfl rfl rfl ?_
      refine Q.loadB (i := 0) rfl Try.underlying2 rfl rfl rfl rfl ?_
      refine Q.neq rfl rfl rfl ?_
      refine Q.isFD (d := 125) rfl (by omega) ?_
      refine Q.pickF rfl rfl ?_
      refine Q.moveT rfl ?_
      refine Q.moveT rfl ?_
      refine Q.moveT rfl ?_
      refine Q.neq rfl rfl rfl ?_
      refine Q.isFD (d := 130) rfl (by exact fun h => h rfl) ?_
      refine Q.pickF rfl rfl ?_
      refine Q.moveT rfl ?_
      refine Q.moveT rfl ?_
      refine Q.moveT rfl ?_
      refine Q.neq rfl rfl rfl ?_
      refine Q.isFD (d := 135) rfl (by exact fun h => h rfl) ?_
      refine Q.pickF rfl rfl ?_
      refine WQ.done ?_
      intro w5020 hS5020
      clear hS96
      refine WR.condF rfl ?_
      refine WR.skip ?_
      refine WR.seq ?_
      refine WR.seq ?_
      refine WR.region rfl ?_
      refine S.moveT rfl ?_
      refine S.notD rfl rfl ?_
      refine WS.done ?_
      refine WR.condD rfl (fun c138 => ?_) (fun c138 => ?_)
      ·
        skip
        refine WR.seq ?_
        refine WR.region rfl ?_
        refine S.moveT rfl ?_
        refine S.eql rfl rfl rfl ?_
        refine S.isTD (d := 140) rfl (by omega) ?_
        refine S.moveT rfl ?_
        refine S.moveT rfl ?_
        refine S.eql rfl rfl rfl ?_
        refine S.isTD (d := 143) rfl (by omega) ?_
        refine S.pickT rfl rfl ?_
        refine S.moveT rfl ?_
        refine S.moveT rfl ?_
        refine S.eql rfl rfl rfl ?_
        refine S.isTD (d := 147) rfl (by omega) ?_
        refine S.pickT rfl rfl ?_
        refine S.moveT rfl ?_
        refine S.loadBA (i := 5) hS5020 rfl Try.underlying23 rfl ti23 rfl rfl rfl rfl ?_
        refine S.loadBA (i := 4) hS5020 rfl Try.underlying25 rfl ti25 rfl rfl rfl rfl ?_
        refine S.call ent18 rfl (gr_certain hS5020 (by exact ha) (by exact hb)) rfl ?_
        rintro _ w152 ⟨rfl, hS152⟩
        clear hS5020
        refine S.isFD (d := 152) rfl (by omega) ?_
        refine S.not rfl rfl ?_
        refine S.pickT rfl rfl ?_
        refine S.assignT rfl ?_
        refine WS.done ?_
        refine WR.ret (ret1 rfl rfl ?_)
        exact ⟨rfl, hS152.drop.drop.drop.drop.drop.drop⟩
      ·
        skip
        refine WR.skip ?_
        refine WR.seq ?_
        refine WR.seq ?_
        refine WR.region rfl ?_
        refine S.loadBA (i := 2) hS5020 rfl Try.underlying33 rfl ti33 rfl rfl rfl rfl ?_
        refine S.call ent19 rfl (r3_right hS5020 ) rfl ?_
        rintro _ w156 ⟨rfl, hS156⟩
        clear hS5020
        refine S.notD rfl rfl ?_
        refine WS.done ?_
        refine WR.condD rfl (fun c157 => ?_) (fun c157 => ?_)
        ·
          skip
          refine WR.seq ?_
          refine WR.region rfl ?_
          refine S.moveT rfl ?_
          refine S.eql rfl rfl rfl ?_
          refine S.isTD (d := 159) rfl (by omega) ?_
          refine S.moveT rfl ?_
          refine S.moveT rfl ?_
          refine S.eql rfl rfl rfl ?_
          refine S.isTD (d := 162) rfl (by omega) ?_
          refine S.pickT rfl rfl ?_
          refine S.moveT rfl ?_
          refine S.moveT rfl ?_
          refine S.eql rfl rfl rfl ?_
          refine S.isTD (d := 166) rfl (by omega) ?_
          refine S.pickT rfl rfl ?_
          refine S.moveT rfl ?_
          refine S.loadBA (i := 5) hS156 rfl Try.underlying23 rfl ti23 rfl rfl rfl rfl ?_
          refine S.loadBA (i := 4) hS156 rfl Try.underlying25 rfl ti25 rfl rfl rfl rfl ?_
          refine S.call ent18 rfl (gr_certain hS156 (by exact ha) (by exact hb)) rfl ?_
          rintro _ w171 ⟨rfl, hS171⟩
          clear hS156
          refine S.isFD (d := 171) rfl (by omega) ?_
          refine S.not rfl rfl ?_
          refine S.pickT rfl rfl ?_
          refine S.assignT rfl ?_
          refine WS.done ?_
          refine WR.ret (ret1 rfl rfl ?_)
          exact ⟨rfl, hS171.drop.drop.drop.drop.drop.drop⟩
        ·
          skip
          refine WR.skip ?_
          refine WR.seq ?_
          refine WR.regionQ mixed hS156 (by kernel_rfl) rfl ?_
          refine Q.loadBA (i := 5) rfl Try.underlying23 rfl ti23 rfl rfl rfl rfl ?_
          refine Q.call ent10 rfl (fun w hQ => l19_of hQ ) rfl ?_
          refine Q.fieldB Try.underlying25 rfl ti2 rfl rfl rfl rfl ?_
          refine Q.loadB (i := 4) rfl Try.underlying2 rfl rfl rfl rfl ?_
          refine Q.call ent17 rfl (fun w hQ => r19_window hQ (by exact ha)) rfl ?_
          refine Q.assignT rfl ?_
          refine WQ.done ?_
          intro w5021 hS5021
          clear hS156
          refine WR.seq ?_
          refine WR.regionQ mixed hS5021 (by kernel_rfl) rfl ?_
          refine Q.loadBA (i := 5) rfl Try.underlying23 rfl ti23 rfl rfl rfl rfl ?_
          refine Q.call ent10 rfl (fun w hQ => l19_of hQ ) rfl ?_
          refine Q.fieldB Try.underlying25 rfl ti2 rfl rfl rfl rfl ?_
          refine Q.loadB (i := 4) rfl Try.underlying2 rfl rfl rfl rfl ?_
          refine Q.call ent17 rfl (fun w hQ => r19_window hQ (by exact hb)) rfl ?_
          refine Q.assignT rfl ?_
          refine WQ.done ?_
          intro w5022 hS5022
          clear hS5021
          refine WR.seq ?_
          refine WR.region rfl ?_
          refine S.moveT rfl ?_
          refine S.eql rfl rfl rfl ?_
          refine S.isTD (d := 185) rfl (by omega) ?_
          refine S.moveT rfl ?_
          refine S.moveT rfl ?_
          refine S.moveT rfl ?_
          refine S.eql rfl rfl rfl ?_
          refine S.isTD (d := 189) rfl (by omega) ?_
          refine S.pickT rfl rfl ?_
          refine S.moveT rfl ?_
          refine S.moveT rfl ?_
          refine S.moveT rfl ?_
          refine S.eql rfl rfl rfl ?_
          refine S.isTD (d := 194) rfl (by omega) ?_
          refine S.pickT rfl rfl ?_
          refine S.moveT rfl ?_
          refine S.loadBA (i := 5) hS5022 rfl Try.underlying23 rfl ti23 rfl rfl rfl rfl ?_
          refine S.loadBA (i := 4) hS5022 rfl Try.underlying25 rfl ti25 rfl rfl rfl rfl ?_
          refine S.call ent18 rfl (gr_certain hS5022 (by exact ha) (by exact hb)) rfl ?_
          rintro _ w199 ⟨rfl, hS199⟩
          clear hS5022
          refine S.moveT rfl ?_
          refine S.moveT rfl ?_
          refine S.eql rfl rfl rfl ?_
          refine S.eqlB Try.underlying4 rfl rfl rfl ?_
          refine S.isB (d := 203) (c := true) rfl (by rw [beq_iff_eq]; first | exact decide_eq_decide.2 (by omega) | exact decide_eq_false (by omega) | exact decide_eq_true (by omega) | exact (decide_eq_false (by omega)).symm) ?_
          refine S.pickT rfl rfl ?_
          refine S.assignT rfl ?_
          refine WS.done ?_
          refine WR.ret (ret1 rfl rfl ?_)
          exact ⟨rfl, hS199.drop.drop.drop.drop.drop.drop⟩
    ·
      skip
      refine S.off rfl ?_
      refine S.off rfl ?_
      refine S.off rfl ?_
      refine S.off rfl ?_
      refine S.off rfl ?_
      refine S.off rfl ?_
      refine S.off rfl ?_
      refine S.pickFC rfl rfl ?_
      refine S.pickF rfl rfl ?_
      refine WS.done ?_
      refine WR.condF rfl ?_
      refine WR.skip ?_
      refine WR.seq ?_
      refine WR.region rfl ?_
      refine S.fieldB Try.underlying25 rfl ti2 rfl rfl rfl rfl ?_
      refine S.loadB (i := 1) hS38 rfl Try.underlying2 rfl rfl rfl rfl ?_
      refine S.fieldB Try.underlying25 rfl ti2 rfl rfl rfl rfl ?_
      refine S.loadB (i := 1) hS38 rfl Try.underlying2 rfl rfl rfl rfl ?_
      refine S.buildStruct [.int _ _, .int _ _] [(0, 1), (1, 1)] Try.underlying33 ti33 rfl (by kernel_rfl) rfl rfl rfl rfl rfl rfl ?_
      refine S.alloc hS38 ti33 rfl rfl ?_
      intro b10 w10 hS10; clear hS38
      refine S.storeB (i := 0) hS10 rfl ti33 rfl rfl rfl rfl rfl rfl rfl rfl ?_
      intro w2023 hS2023; clear hS10
      refine WS.done ?_
      refine WR.seq ?_
      refine WR.region rfl ?_
      refine S.loadBA (i := 3) hS2023 rfl Try.underlying23 rfl ti23 rfl rfl rfl rfl ?_
      refine S.moveT rfl ?_
      refine S.call ent11 rfl (gr_span hS2023 (by exact hw) (by exact ht)) rfl ?_
      rintro _ w70 ⟨lo70, hi70, e70, rfl, hP70, hS70⟩
      clear hS2023
      refine S.moveT rfl ?_
      refine S.extract rfl rfl rfl ?_
      refine S.extract rfl rfl rfl ?_
      refine S.alloc hS70 ti25 rfl rfl ?_
      intro b11 w11 hS11; clear hS70
      refine S.storeB (i := 0) hS11 rfl ti25 rfl rfl rfl rfl rfl rfl rfl rfl ?_
      intro w2024 hS2024; clear hS11
      refine S.assignT rfl ?_
      refine WS.done ?_
      refine WR.seq ?_
      refine WR.region rfl ?_
      refine S.loadBA (i := 4) hS2024 rfl Try.underlying23 rfl ti23 rfl rfl rfl rfl ?_
      refine S.call ent10 rfl (l19_of hS2024 ) rfl ?_
      rintro _ w75 ⟨rfl, hS75⟩
      clear hS2024
      refine S.moveT rfl ?_
      refine S.call ent12 rfl (r19_span hS75 (by exact hw) (by exact ht)) rfl ?_
      rintro _ w77 ⟨lo77, hi77, e77, rfl, hP77, hS77⟩
      clear hS75
      have hs77 := hP70.same hP77
      refine S.moveT rfl ?_
      refine S.extract rfl rfl rfl ?_
      refine S.extract rfl rfl rfl ?_
      refine S.alloc hS77 ti33 rfl rfl ?_
      intro b13 w13 hS13; clear hS77
      refine S.storeB (i := 0) hS13 rfl ti33 rfl rfl rfl rfl rfl rfl rfl rfl ?_
      intro w2025 hS2025; clear hS13
      refine S.assignT rfl ?_
      refine WS.done ?_
      refine WR.seq ?_
      refine WR.region rfl ?_
      refine S.loadBA (i := 5) hS2025 rfl Try.underlying23 rfl ti23 rfl rfl rfl rfl ?_
      refine S.loadBA (i := 4) hS2025 rfl Try.underlying25 rfl ti25 rfl rfl rfl rfl ?_
      refine S.call ent13 rfl (gr_pick hS2025 (by exact ha) (by exact hb)) rfl ?_
      rintro _ w83 ⟨rfl, hS83⟩
      clear hS2025
      refine S.moveT rfl ?_
      refine S.extract rfl rfl rfl ?_
      refine S.extract rfl rfl rfl ?_
      refine S.assignT rfl ?_
      refine S.assignT rfl ?_
      refine WS.done ?_
      refine WR.seq ?_
      refine WR.regionQ mixed hS83 (by kernel_rfl) rfl ?_
      refine Q.loadBA (i := 5) rfl Try.underlying23 rfl ti23 rfl rfl rfl rfl ?_
      refine Q.call ent10 rfl (fun w hQ => l19_of hQ ) rfl ?_
      refine Q.loadBA (i := 2) rfl Try.underlying33 rfl ti33 rfl rfl rfl rfl ?_
      refine Q.call ent14 rfl (fun w hQ => r19_pick hQ (by exact ha) (by exact hb) (by exact hm)) rfl ?_
      refine Q.moveT rfl ?_
      refine Q.extract rfl rfl rfl ?_
      refine Q.extract rfl rfl rfl ?_
      refine Q.assignT rfl ?_
      refine Q.assignT rfl ?_
      refine WQ.done ?_
      intro w5026 hS5026
      clear hS83
      refine WR.seq ?_
      refine WR.region rfl ?_
      refine S.loadBA (i := 5) hS5026 rfl Try.underlying23 rfl ti23 rfl rfl rfl rfl ?_
      refine S.loadBA (i := 4) hS5026 rfl Try.underlying25 rfl ti25 rfl rfl rfl rfl ?_
      refine S.call ent15 rfl (gr_meets hS5026 (by exact ha) (by exact hb)) rfl ?_
      rintro _ w96 ⟨rfl, hS96⟩
      clear hS5026
      refine S.moveT rfl ?_
      refine S.extract rfl rfl rfl ?_
      refine S.extract rfl rfl rfl ?_
      refine S.extract rfl rfl rfl ?_
      refine S.assignT rfl ?_
      refine S.assignT rfl ?_
      refine S.assignT rfl ?_
      refine WS.done ?_
      refine WR.seq ?_
      refine WR.seq ?_
      refine WR.regionQ mixed hS96 (by kernel_rfl) rfl ?_
      refine Q.loadBA (i := 5) rfl Try.underlying23 rfl ti23 rfl rfl rfl rfl ?_
      refine Q.moveT rfl ?_
      refine Q.call ent16 rfl (fun w hQ => gr_window hQ (by exact ht)) rfl ?_
      refine Q.loadBA (i := 5) rfl Try.underlying23 rfl ti23 rfl rfl rfl rfl ?_
      refine Q.call ent10 rfl (fun w hQ => l19_of hQ ) rfl ?_
      refine Q.moveT rfl ?_
      refine Q.call ent17 rfl (fun w hQ => r19_window hQ (by exact ht)) rfl ?_
      refine Q.neq rfl rfl rfl ?_
      refine Q.isFD (d := 107) rfl (by exact fun h => h rfl) ?_
      refine Q.moveT rfl ?_
      refine Q.moveT rfl ?_
      refine Q.moveT rfl ?_
      refine Q.neq rfl rfl rfl ?_
      refine Q.isFD (d := 111) rfl (by omega) ?_
      refine Q.pickF rfl rfl ?_
      refine Q.moveT rfl ?_
      refine Q.fieldB Try.underlying25 rfl ti2 rfl rfl rfl rfl ?_
      refine Q.loadB (i := 1) rfl Try.underlying2 rfl rfl rfl rfl ?_
      refine Q.fieldB Try.underlying33 rfl ti2 rfl rfl rfl rfl ?_
      refine Q.loadB (i := 0) rfl Try.underlying2 rfl rfl rfl rfl ?_
      refine Q.neq rfl rfl rfl ?_
      refine Q.isFD (d := 118) rfl (by omega) ?_
      refine Q.pickF rfl rfl ?_
      refine Q.moveT rfl ?_
      refine Q.fieldB Try.underlying25 rfl ti2 rfl rfl rfl rfl ?_
      refine Q.loadB (i := 1) rfl Try.underlying2 rfl rfl rfl rfl ?_
      refine Q.fieldB Try.underlying33 rfl ti2 rfl rfl rfl rfl ?_
      refine Q.loadB (i := 0) rfl Try.underlying2 rfl rfl rfl rfl ?_
      refine Q.neq rfl rfl rfl ?_
      refine Q.isFD (d := 125) rfl (by omega) ?_
      refine Q.pickF rfl rfl ?_
      refine Q.moveT rfl ?_
      refine Q.moveT rfl ?_
      refine Q.moveT rfl ?_
      refine Q.neq rfl rfl rfl ?_
      refine Q.isFD (d := 130) rfl (by exact fun h => h rfl) ?_
      refine Q.pickF rfl rfl ?_
      refine Q.moveT rfl ?_
      refine Q.moveT rfl ?_
      refine Q.moveT rfl ?_
      refine Q.neq rfl rfl rfl ?_
      refine Q.isFD (d := 135) rfl (by exact fun h => h rfl) ?_
      refine Q.pickF rfl rfl ?_
      refine WQ.done ?_
      intro w5027 hS5027
      clear hS96
      refine WR.condF rfl ?_
      refine WR.skip ?_
      refine WR.seq ?_
      refine WR.seq ?_
      refine WR.region rfl ?_
      refine S.moveT rfl ?_
      refine S.notD rfl rfl ?_
      refine WS.done ?_
      refine WR.condD rfl (fun c138 => ?_) (fun c138 => ?_)
      ·
        skip
        refine WR.seq ?_
        refine WR.region rfl ?_
        refine S.moveT rfl ?_
        refine S.eql rfl rfl rfl ?_
        refine S.isTD (d := 140) rfl (by omega) ?_
        refine S.moveT rfl ?_
        refine S.moveT rfl ?_
        refine S.eql rfl rfl rfl ?_
        refine S.isTD (d := 143) rfl (by omega) ?_
        refine S.pickT rfl rfl ?_
        refine S.moveT rfl ?_
        refine S.moveT rfl ?_
        refine S.eql rfl rfl rfl ?_
        refine S.isTD (d := 147) rfl (by omega) ?_
        refine S.pickT rfl rfl ?_
        refine S.moveT rfl ?_
        refine S.loadBA (i := 5) hS5027 rfl Try.underlying23 rfl ti23 rfl rfl rfl rfl ?_
        refine S.loadBA (i := 4) hS5027 rfl Try.underlying25 rfl ti25 rfl rfl rfl rfl ?_
        refine S.call ent18 rfl (gr_certain hS5027 (by exact ha) (by exact hb)) rfl ?_
        rintro _ w152 ⟨rfl, hS152⟩
        clear hS5027
        refine S.isFD (d := 152) rfl (by omega) ?_
        refine S.not rfl rfl ?_
        refine S.pickT rfl rfl ?_
        refine S.assignT rfl ?_
        refine WS.done ?_
        refine WR.ret (ret1 rfl rfl ?_)
        exact ⟨rfl, hS152.drop.drop.drop.drop.drop.drop⟩
      ·
        skip
        refine WR.skip ?_
        refine WR.seq ?_
        refine WR.seq ?_
        refine WR.region rfl ?_
        refine S.loadBA (i := 2) hS5027 rfl Try.underlying33 rfl ti33 rfl rfl rfl rfl ?_
        refine S.call ent19 rfl (r3_right hS5027 ) rfl ?_
        rintro _ w156 ⟨rfl, hS156⟩
        clear hS5027
        refine S.notD rfl rfl ?_
        refine WS.done ?_
        refine WR.condD rfl (fun c157 => ?_) (fun c157 => ?_)
        ·
          skip
          refine WR.seq ?_
          refine WR.region rfl ?_
          refine S.moveT rfl ?_
          refine S.eql rfl rfl rfl ?_
          refine S.isTD (d := 159) rfl (by omega) ?_
          refine S.moveT rfl ?_
          refine S.moveT rfl ?_
          refine S.eql rfl rfl rfl ?_
          refine S.isTD (d := 162) rfl (by omega) ?_
          refine S.pickT rfl rfl ?_
          refine S.moveT rfl ?_
          refine S.moveT rfl ?_
          refine S.eql rfl rfl rfl ?_
          refine S.isTD (d := 166) rfl (by omega) ?_
          refine S.pickT rfl rfl ?_
          refine S.moveT rfl ?_
          refine S.loadBA (i := 5) hS156 rfl Try.underlying23 rfl ti23 rfl rfl rfl rfl ?_
          refine S.loadBA (i := 4) hS156 rfl Try.underlying25 rfl ti25 rfl rfl rfl rfl ?_
          refine S.call ent18 rfl (gr_certain hS156 (by exact ha) (by exact hb)) rfl ?_
          rintro _ w171 ⟨rfl, hS171⟩
          clear hS156
          refine S.isFD (d := 171) rfl (by omega) ?_
          refine S.not rfl rfl ?_
          refine S.pickT rfl rfl ?_
          refine S.assignT rfl ?_
          refine WS.done ?_
          refine WR.ret (ret1 rfl rfl ?_)
          exact ⟨rfl, hS171.drop.drop.drop.drop.drop.drop⟩
        ·
          skip
          refine WR.skip ?_
          refine WR.seq ?_
          refine WR.regionQ mixed hS156 (by kernel_rfl) rfl ?_
          refine Q.loadBA (i := 5) rfl Try.underlying23 rfl ti23 rfl rfl rfl rfl ?_
          refine Q.call ent10 rfl (fun w hQ => l19_of hQ ) rfl ?_
          refine Q.fieldB Try.underlying25 rfl ti2 rfl rfl rfl rfl ?_
          refine Q.loadB (i := 4) rfl Try.underlying2 rfl rfl rfl rfl ?_
          refine Q.call ent17 rfl (fun w hQ => r19_window hQ (by exact ha)) rfl ?_
          refine Q.assignT rfl ?_
          refine WQ.done ?_
          intro w5028 hS5028
          clear hS156
          refine WR.seq ?_
          refine WR.regionQ mixed hS5028 (by kernel_rfl) rfl ?_
          refine Q.loadBA (i := 5) rfl Try.underlying23 rfl ti23 rfl rfl rfl rfl ?_
          refine Q.call ent10 rfl (fun w hQ => l19_of hQ ) rfl ?_
          refine Q.fieldB Try.underlying25 rfl ti2 rfl rfl rfl rfl ?_
          refine Q.loadB (i := 4) rfl Try.underlying2 rfl rfl rfl rfl ?_
          refine Q.call ent17 rfl (fun w hQ => r19_window hQ (by exact hb)) rfl ?_
          refine Q.assignT rfl ?_
          refine WQ.done ?_
          intro w5029 hS5029
          clear hS5028
          refine WR.seq ?_
          refine WR.region rfl ?_
          refine S.moveT rfl ?_
          refine S.eql rfl rfl rfl ?_
          refine S.isTD (d := 185) rfl (by omega) ?_
          refine S.moveT rfl ?_
          refine S.moveT rfl ?_
          refine S.moveT rfl ?_
          refine S.eql rfl rfl rfl ?_
          refine S.isTD (d := 189) rfl (by omega) ?_
          refine S.pickT rfl rfl ?_
          refine S.moveT rfl ?_
          refine S.moveT rfl ?_
          refine S.moveT rfl ?_
          refine S.eql rfl rfl rfl ?_
          refine S.isTD (d := 194) rfl (by omega) ?_
          refine S.pickT rfl rfl ?_
          refine S.moveT rfl ?_
          refine S.loadBA (i := 5) hS5029 rfl Try.underlying23 rfl ti23 rfl rfl rfl rfl ?_
          refine S.loadBA (i := 4) hS5029 rfl Try.underlying25 rfl ti25 rfl rfl rfl rfl ?_
          refine S.call ent18 rfl (gr_certain hS5029 (by exact ha) (by exact hb)) rfl ?_
          rintro _ w199 ⟨rfl, hS199⟩
          clear hS5029
          refine S.moveT rfl ?_
          refine S.moveT rfl ?_
          refine S.eql rfl rfl rfl ?_
          refine S.eqlB Try.underlying4 rfl rfl rfl ?_
          refine S.isB (d := 203) (c := true) rfl (by rw [beq_iff_eq]; first | exact decide_eq_decide.2 (by omega) | exact decide_eq_false (by omega) | exact decide_eq_true (by omega) | exact (decide_eq_false (by omega)).symm) ?_
          refine S.pickT rfl rfl ?_
          refine S.assignT rfl ?_
          refine WS.done ?_
          refine WR.ret (ret1 rfl rfl ?_)
          exact ⟨rfl, hS199.drop.drop.drop.drop.drop.drop⟩


end Go.Proofs.Yteibodpeknlchaa.B

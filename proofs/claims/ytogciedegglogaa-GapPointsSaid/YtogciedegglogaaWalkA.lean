import Derived.Test.YtogciedegglogaaWalkG
import Derived.Test.YtogciedegglogaaWalkQ
namespace Go.Proofs.Ytogciedegglogaa.B
open Go.Proofs Go.RowKit
set_option linter.unusedVariables false
set_option linter.unusedSimpArgs false
set_option maxRecDepth 100000 in
set_option maxHeartbeats 4000000 in
theorem l3_alive {w : World} {R : Kn} {L : List HP} (hS : St w R (L))  :
    Fn Try.prog 7 #[] w (fun v w' => v = .bool true ∧ St w' R L) := by
  refine Fn.intro (n := 127) Try.func7 rfl rfl rfl ?_
  refine WR.seq ?_
  refine WR.region rfl ?_
  refine S.assignC rfl ?_
  refine WS.done ?_
  refine WR.seq ?_
  refine WR.region rfl ?_
  refine S.call ent8 rfl (g_new hS ) rfl ?_
  rintro _ w16 ⟨p16, q16, rfl, hG16, hS16⟩
  clear hS
  obtain ⟨rfl, rfl⟩ : p16 = 1 ∧ q16 = 5 := by omega
  refine S.moveT rfl ?_
  refine S.extract rfl rfl rfl ?_
  refine S.extract rfl rfl rfl ?_
  refine S.alloc hS16 ti23 rfl rfl ?_
  intro b1 w1 hS1; clear hS16
  refine S.storeB (i := 0) hS1 rfl ti23 rfl rfl rfl rfl rfl rfl rfl rfl ?_
  intro w2001 hS2001; clear hS1
  refine S.assignT rfl ?_
  refine WS.done ?_
  refine WR.seq ?_
  refine WR.region rfl ?_
  refine S.call ent8 rfl (g_new hS2001 ) rfl ?_
  rintro _ w20 ⟨p20, q20, rfl, hG20, hS20⟩
  clear hS2001
  obtain ⟨rfl, rfl⟩ : p20 = 0 ∧ q20 = 0 := by omega
  refine S.moveT rfl ?_
  refine S.extract rfl rfl rfl ?_
  refine S.extract rfl rfl rfl ?_
  refine S.alloc hS20 ti23 rfl rfl ?_
  intro b3 w3 hS3; clear hS20
  refine S.storeB (i := 0) hS3 rfl ti23 rfl rfl rfl rfl rfl rfl rfl rfl ?_
  intro w2002 hS2002; clear hS3
  refine S.assignT rfl ?_
  refine WS.done ?_
  refine WR.seq ?_
  refine WR.region rfl ?_
  refine S.loadBA (i := 1) hS2002 rfl Try.underlying23 rfl ti23 rfl rfl rfl rfl ?_
  refine S.buildStruct [.int _ _, .int _ _] [(0, 1), (1, 1)] Try.underlying23 ti23 rfl (by kernel_rfl) rfl rfl rfl rfl rfl rfl ?_
  first
    | refine S.buildRow (vs := [.agg _, .agg _]) hS2002 Try.underlying43 ti23 rfl rfl rfl rfl rfl rfl rfl ?_
    | refine S.buildRow hS2002 Try.underlying43 ti23 rfl rfl rfl rfl rfl rfl rfl ?_
  intro b26 w26 hS26; clear hS2002
  obtain ⟨R26, hR26, hro26, hSf26⟩ := hS26.keepRow (enc := gpE) (n := 2) [(1, 5), (4, 9)] rfl (fun _ _ => rfl)
  refine S.call ent20 rfl (g_meet hSf26 (by exact hro26) (by decide)) rfl ?_
  rintro _ w27 ⟨p27, q27, e27, rfl, hG27, hS27⟩
  clear hSf26
  obtain ⟨rfl, rfl, rfl⟩ : p27 = 4 ∧ q27 = 5 ∧ e27 = 0 := hG27.same (.inr (.inr ⟨by decide, by decide, by decide, by decide, rfl⟩))
  refine S.moveT rfl ?_
  refine S.extract rfl rfl rfl ?_
  refine S.extract rfl rfl rfl ?_
  refine S.alloc hS27 ti23 rfl rfl ?_
  intro b5 w5 hS5; clear hS27
  refine S.storeB (i := 0) hS5 rfl ti23 rfl rfl rfl rfl rfl rfl rfl rfl ?_
  intro w2003 hS2003; clear hS5
  refine S.assignT rfl ?_
  refine WS.done ?_
  refine WR.seq ?_
  refine WR.region rfl ?_
  refine S.loadBA (i := 2) hS2003 rfl Try.underlying23 rfl ti23 rfl rfl rfl rfl ?_
  refine S.buildStruct [.int _ _, .int _ _] [(0, 1), (1, 1)] Try.underlying23 ti23 rfl (by kernel_rfl) rfl rfl rfl rfl rfl rfl ?_
  first
    | refine S.buildRow (vs := [.agg _, .agg _]) hS2003 Try.underlying43 ti23 rfl rfl rfl rfl rfl rfl rfl ?_
    | refine S.buildRow hS2003 Try.underlying43 ti23 rfl rfl rfl rfl rfl rfl rfl ?_
  intro b33 w33 hS33; clear hS2003
  obtain ⟨R33, hR33, hro33, hSf33⟩ := hS33.keepRow (enc := gpE) (n := 2) [(1, 5), (7, 9)] rfl (fun _ _ => rfl)
  replace hro26 := hro26.mono hR33
  refine S.call ent21 rfl (g_hull hSf33 (by exact hro33) (by decide)) rfl ?_
  rintro _ w34 ⟨p34, q34, e34, rfl, hG34, hS34⟩
  clear hSf33
  obtain ⟨rfl, rfl, rfl⟩ : p34 = 1 ∧ q34 = 9 ∧ e34 = 0 := hG34.same (.inr (.inr ⟨by decide, by decide, by decide, by decide, rfl⟩))
  refine S.moveT rfl ?_
  refine S.extract rfl rfl rfl ?_
  refine S.extract rfl rfl rfl ?_
  refine S.alloc hS34 ti23 rfl rfl ?_
  intro b7 w7 hS7; clear hS34
  refine S.storeB (i := 0) hS7 rfl ti23 rfl rfl rfl rfl rfl rfl rfl rfl ?_
  intro w2004 hS2004; clear hS7
  refine S.assignT rfl ?_
  refine WS.done ?_
  refine WR.seq ?_
  refine WR.region rfl ?_
  refine S.loadBA (i := 3) hS2004 rfl Try.underlying23 rfl ti23 rfl rfl rfl rfl ?_
  refine S.buildStruct [.int _ _, .int _ _] [(0, 1), (1, 1)] Try.underlying23 ti23 rfl (by kernel_rfl) rfl rfl rfl rfl rfl rfl ?_
  first
    | refine S.buildRow (vs := [.agg _, .agg _]) hS2004 Try.underlying43 ti23 rfl rfl rfl rfl rfl rfl rfl ?_
    | refine S.buildRow hS2004 Try.underlying43 ti23 rfl rfl rfl rfl rfl rfl rfl ?_
  intro b40 w40 hS40; clear hS2004
  obtain ⟨R40, hR40, hro40, hSf40⟩ := hS40.keepRow (enc := gpE) (n := 2) [(1, 5), (6, 9)] rfl (fun _ _ => rfl)
  replace hro26 := hro26.mono hR40
  replace hro33 := hro33.mono hR40
  refine S.call ent20 rfl (g_meet hSf40 (by exact hro40) (by decide)) rfl ?_
  rintro _ w41 ⟨p41, q41, e41, rfl, hG41, hS41⟩
  clear hSf40
  obtain ⟨rfl, rfl, rfl⟩ : p41 = 0 ∧ q41 = 0 ∧ e41 = 13 := hG41.same (.inr (.inl ⟨by decide, by decide, rfl, rfl, rfl⟩))
  refine S.moveT rfl ?_
  refine S.extract rfl rfl rfl ?_
  refine S.extract rfl rfl rfl ?_
  refine S.alloc hS41 ti23 rfl rfl ?_
  intro b9 w9 hS9; clear hS41
  refine S.storeB (i := 0) hS9 rfl ti23 rfl rfl rfl rfl rfl rfl rfl rfl ?_
  intro w2005 hS2005; clear hS9
  refine S.assignT rfl ?_
  refine WS.done ?_
  refine WR.seq ?_
  refine WR.region rfl ?_
  refine S.loadBA (i := 4) hS2005 rfl Try.underlying23 rfl ti23 rfl rfl rfl rfl ?_
  refine S.call ent9 rfl (g_shift hS2005 (by decide) (by decide) (by decide)) rfl ?_
  rintro _ w46 ⟨p46, q46, e46, rfl, hG46, hS46⟩
  clear hS2005
  obtain ⟨rfl, rfl, rfl⟩ : p46 = -2 ∧ q46 = 2 ∧ e46 = 0 := by omega
  refine S.moveT rfl ?_
  refine S.extract rfl rfl rfl ?_
  refine S.extract rfl rfl rfl ?_
  refine S.alloc hS46 ti23 rfl rfl ?_
  intro b11 w11 hS11; clear hS46
  refine S.storeB (i := 0) hS11 rfl ti23 rfl rfl rfl rfl rfl rfl rfl rfl ?_
  intro w2006 hS2006; clear hS11
  refine S.assignT rfl ?_
  refine WS.done ?_
  refine WR.seq ?_
  refine WR.region rfl ?_
  refine S.loadBA (i := 5) hS2006 rfl Try.underlying23 rfl ti23 rfl rfl rfl rfl ?_
  refine S.call ent10 rfl (g_grow hS2006 (by decide) (by decide) (by decide) (by decide)) rfl ?_
  rintro _ w51 ⟨p51, q51, e51, rfl, hG51, hS51⟩
  clear hS2006
  obtain ⟨rfl, rfl, rfl⟩ : p51 = 0 ∧ q51 = 7 ∧ e51 = 0 := by omega
  refine S.moveT rfl ?_
  refine S.extract rfl rfl rfl ?_
  refine S.extract rfl rfl rfl ?_
  refine S.alloc hS51 ti23 rfl rfl ?_
  intro b13 w13 hS13; clear hS51
  refine S.storeB (i := 0) hS13 rfl ti23 rfl rfl rfl rfl rfl rfl rfl rfl ?_
  intro w2007 hS2007; clear hS13
  refine S.assignT rfl ?_
  refine WS.done ?_
  refine WR.seq ?_
  refine WR.region rfl ?_
  refine S.moveT rfl ?_
  refine S.moveT rfl ?_
  refine S.isTD (d := 55) rfl (by decide) ?_
  refine S.moveT rfl ?_
  refine S.notD rfl rfl ?_
  refine S.isTD (d := 57) rfl (by decide) ?_
  refine S.pickT rfl rfl ?_
  refine S.moveT rfl ?_
  refine S.loadBA (i := 6) hS2007 rfl Try.underlying23 rfl ti23 rfl rfl rfl rfl ?_
  refine S.call ent14 rfl (g_right hS2007 ) rfl ?_
  rintro _ w61 ⟨rfl, hS61⟩
  clear hS2007
  refine S.isTD (d := 61) rfl (by decide) ?_
  refine S.pickT rfl rfl ?_
  refine S.moveT rfl ?_
  refine S.loadBA (i := 6) hS61 rfl Try.underlying23 rfl ti23 rfl rfl rfl rfl ?_
  refine S.call ent17 rfl (g_has hS61 ) rfl ?_
  rintro _ w65 ⟨rfl, hS65⟩
  clear hS61
  refine S.isTD (d := 65) rfl (by decide) ?_
  refine S.pickT rfl rfl ?_
  refine S.moveT rfl ?_
  refine S.loadBA (i := 6) hS65 rfl Try.underlying23 rfl ti23 rfl rfl rfl rfl ?_
  refine S.call ent17 rfl (g_has hS65 ) rfl ?_
  rintro _ w69 ⟨rfl, hS69⟩
  clear hS65
  refine S.isFD (d := 69) rfl (by decide) ?_
  refine S.not rfl rfl ?_
  refine S.pickT rfl rfl ?_
  refine S.moveT rfl ?_
  refine S.loadBA (i := 6) hS69 rfl Try.underlying23 rfl ti23 rfl rfl rfl rfl ?_
  refine S.loadBA (i := 3) hS69 rfl Try.underlying23 rfl ti23 rfl rfl rfl rfl ?_
  refine S.call ent18 rfl (g_within hS69 ) rfl ?_
  rintro _ w75 ⟨rfl, hS75⟩
  clear hS69
  refine S.isTD (d := 75) rfl (by decide) ?_
  refine S.pickT rfl rfl ?_
  refine S.moveT rfl ?_
  refine S.loadBA (i := 6) hS75 rfl Try.underlying23 rfl ti23 rfl rfl rfl rfl ?_
  refine S.call ent19 rfl (g_width hS75 (by decide) (by decide)) rfl ?_
  rintro _ w79 ⟨rfl, hS79⟩
  clear hS75
  refine S.eql rfl rfl rfl ?_
  refine S.isTD (d := 80) rfl (by decide) ?_
  refine S.pickT rfl rfl ?_
  refine S.moveT rfl ?_
  refine S.buildK (v := .agg #[.int .i64 (-3), .int .i64 0]) rfl (by kernel_rfl) rfl ?_
  refine S.call ent15 rfl (g_mid hS79 (by decide) (by decide)) rfl ?_
  rintro _ w84 ⟨rfl, hS84⟩
  clear hS79
  refine S.eql rfl rfl rfl ?_
  refine S.isTD (d := 85) rfl (by decide) ?_
  refine S.pickT rfl rfl ?_
  refine S.moveT rfl ?_
  refine S.moveT rfl ?_
  refine S.eql rfl rfl rfl ?_
  refine S.isTD (d := 89) rfl (by decide) ?_
  refine S.pickT rfl rfl ?_
  refine S.moveT rfl ?_
  refine S.moveT rfl ?_
  refine S.eql rfl rfl rfl ?_
  refine S.isTD (d := 93) rfl (by decide) ?_
  refine S.pickT rfl rfl ?_
  refine S.moveT rfl ?_
  refine S.moveT rfl ?_
  refine S.eql rfl rfl rfl ?_
  refine S.isTD (d := 97) rfl (by decide) ?_
  refine S.pickT rfl rfl ?_
  refine S.moveT rfl ?_
  refine S.moveT rfl ?_
  refine S.eql rfl rfl rfl ?_
  refine S.isTD (d := 101) rfl (by decide) ?_
  refine S.pickT rfl rfl ?_
  refine S.moveT rfl ?_
  refine S.moveT rfl ?_
  refine S.eql rfl rfl rfl ?_
  refine S.isTD (d := 105) rfl (by decide) ?_
  refine S.pickT rfl rfl ?_
  refine S.moveT rfl ?_
  refine S.loadBA (i := 4) hS84 rfl Try.underlying23 rfl ti23 rfl rfl rfl rfl ?_
  refine S.buildStruct [.int _ _, .int _ _] [(0, 1), (1, 1)] Try.underlying23 ti23 rfl (by kernel_rfl) rfl rfl rfl rfl rfl rfl ?_
  refine S.eqlS rfl rfl (by kernel_rfl) (Eq1.struct Try.underlying23 (by kernel_rfl) (EqF.cons (by decide) (Part1.one Try.underlying2 rfl rfl) (Part1.one Try.underlying2 rfl rfl) (Eq1.int Try.underlying2) (EqF.one (by decide) (Part1.one Try.underlying2 rfl rfl) (Part1.one Try.underlying2 rfl rfl) (Eq1.int Try.underlying2)))) rfl ?_
  refine S.isTD (d := 110) rfl (by decide) ?_
  refine S.pickT rfl rfl ?_
  refine S.moveT rfl ?_
  refine S.loadBA (i := 3) hS84 rfl Try.underlying23 rfl ti23 rfl rfl rfl rfl ?_
  refine S.buildStruct [.int _ _, .int _ _] [(0, 1), (1, 1)] Try.underlying23 ti23 rfl (by kernel_rfl) rfl rfl rfl rfl rfl rfl ?_
  refine S.eqlS rfl rfl (by kernel_rfl) (Eq1.struct Try.underlying23 (by kernel_rfl) (EqF.cons (by decide) (Part1.one Try.underlying2 rfl rfl) (Part1.one Try.underlying2 rfl rfl) (Eq1.int Try.underlying2) (EqF.one (by decide) (Part1.one Try.underlying2 rfl rfl) (Part1.one Try.underlying2 rfl rfl) (Eq1.int Try.underlying2)))) rfl ?_
  refine S.isTD (d := 115) rfl (by decide) ?_
  refine S.pickT rfl rfl ?_
  refine S.moveT rfl ?_
  refine S.loadBA (i := 1) hS84 rfl Try.underlying23 rfl ti23 rfl rfl rfl rfl ?_
  refine S.buildStruct [.int _ _, .int _ _] [(0, 1), (1, 1)] Try.underlying23 ti23 rfl (by kernel_rfl) rfl rfl rfl rfl rfl rfl ?_
  refine S.eqlS rfl rfl (by kernel_rfl) (Eq1.struct Try.underlying23 (by kernel_rfl) (EqF.cons (by decide) (Part1.one Try.underlying2 rfl rfl) (Part1.one Try.underlying2 rfl rfl) (Eq1.int Try.underlying2) (EqF.one (by decide) (Part1.one Try.underlying2 rfl rfl) (Part1.one Try.underlying2 rfl rfl) (Eq1.int Try.underlying2)))) rfl ?_
  refine S.isTD (d := 120) rfl (by decide) ?_
  refine S.pickT rfl rfl ?_
  refine S.moveT rfl ?_
  refine S.loadBA (i := 0) hS84 rfl Try.underlying23 rfl ti23 rfl rfl rfl rfl ?_
  refine S.buildStruct [.int _ _, .int _ _] [(0, 1), (1, 1)] Try.underlying23 ti23 rfl (by kernel_rfl) rfl rfl rfl rfl rfl rfl ?_
  refine S.eqlS rfl rfl (by kernel_rfl) (Eq1.struct Try.underlying23 (by kernel_rfl) (EqF.cons (by decide) (Part1.one Try.underlying2 rfl rfl) (Part1.one Try.underlying2 rfl rfl) (Eq1.int Try.underlying2) (EqF.one (by decide) (Part1.one Try.underlying2 rfl rfl) (Part1.one Try.underlying2 rfl rfl) (Eq1.int Try.underlying2)))) rfl ?_
  refine S.isTD (d := 125) rfl (by decide) ?_
  refine S.pickT rfl rfl ?_
  refine S.assignT rfl ?_
  refine WS.done ?_
  refine WR.ret (ret1 rfl rfl ?_)
  exact ⟨rfl, hS84.drop.drop.drop.drop.drop.drop.drop.weak (hR26.trans (hR33.trans hR40))⟩

set_option maxRecDepth 100000 in
set_option maxHeartbeats 4000000 in
theorem law_GapAnswers {w : World} {R : Kn} {L : List HP} (hS : St w R (L)) {a b c d x y : Int} (ha : fits a) (hb : fits b) (hc : fits c) (hd : fits d) (hx : fits x) (hy : fits y) :
    Fn Try.prog 3 #[.agg #[.int .i64 a, .int .i64 b], .agg #[.int .i64 c, .int .i64 d], .int .i64 x, .int .i64 y] w (fun v w' => v = .bool true ∧ St w' R L) := by
  have hw := wd_cases a b
  have hfa := id ha
  have hfb := id hb
  unfold fits at hfa hfb
  refine Fn.intro (n := 181) Try.func3 rfl rfl rfl ?_
  refine WR.seq ?_
  refine WR.region rfl ?_
  refine S.box hS rfl rfl rfl ?_
  intro b4 w4 hS4; clear hS
  refine S.box hS4 rfl rfl rfl ?_
  intro b5 w5 hS5; clear hS4
  refine S.assignC rfl ?_
  refine WS.done ?_
  refine WR.seq ?_
  refine WR.seq ?_
  refine WR.region rfl ?_
  refine S.call ent7 rfl (l3_alive hS5 ) rfl ?_
  rintro _ w21 ⟨rfl, hS21⟩
  clear hS5
  refine S.not rfl rfl ?_
  refine WS.done ?_
  refine WR.condF rfl ?_
  refine WR.skip ?_
  refine WR.seq ?_
  refine WR.region rfl ?_
  refine S.fieldB Try.underlying23 rfl ti2 rfl rfl rfl rfl ?_
  refine S.loadB (i := 1) hS21 rfl Try.underlying2 rfl rfl rfl rfl ?_
  refine S.fieldB Try.underlying23 rfl ti2 rfl rfl rfl rfl ?_
  refine S.loadB (i := 1) hS21 rfl Try.underlying2 rfl rfl rfl rfl ?_
  refine S.call ent8 rfl (g_new hS21 ) rfl ?_
  rintro _ w28 ⟨p28, q28, rfl, hG28, hS28⟩
  clear hS21
  refine S.moveT rfl ?_
  refine S.extract rfl rfl rfl ?_
  refine S.extract rfl rfl rfl ?_
  refine S.alloc hS28 ti23 rfl rfl ?_
  intro b9 w9 hS9; clear hS28
  refine S.storeB (i := 0) hS9 rfl ti23 rfl rfl rfl rfl rfl rfl rfl rfl ?_
  intro w2001 hS2001; clear hS9
  refine S.assignT rfl ?_
  refine WS.done ?_
  refine WR.seq ?_
  refine WR.region rfl ?_
  refine S.loadBA (i := 2) hS2001 rfl Try.underlying23 rfl ti23 rfl rfl rfl rfl ?_
  refine S.moveT rfl ?_
  refine S.call ent9 rfl (g_shift hS2001 (by exact ha) (by exact hb) (by exact hx)) rfl ?_
  rintro _ w34 ⟨p34, q34, e34, rfl, hG34, hS34⟩
  clear hS2001
  refine S.moveT rfl ?_
  refine S.extract rfl rfl rfl ?_
  refine S.extract rfl rfl rfl ?_
  refine S.alloc hS34 ti23 rfl rfl ?_
  intro b11 w11 hS11; clear hS34
  refine S.storeB (i := 0) hS11 rfl ti23 rfl rfl rfl rfl rfl rfl rfl rfl ?_
  intro w2002 hS2002; clear hS11
  refine S.assignT rfl ?_
  refine WS.done ?_
  refine WR.seq ?_
  refine WR.region rfl ?_
  refine S.loadBA (i := 3) hS2002 rfl Try.underlying23 rfl ti23 rfl rfl rfl rfl ?_
  refine S.moveT rfl ?_
  refine S.moveT rfl ?_
  refine S.call ent10 rfl (g_grow hS2002 (by exact ha) (by exact hb) (by exact hx) (by exact hy)) rfl ?_
  rintro _ w41 ⟨p41, q41, e41, rfl, hG41, hS41⟩
  clear hS2002
  refine S.moveT rfl ?_
  refine S.extract rfl rfl rfl ?_
  refine S.extract rfl rfl rfl ?_
  refine S.alloc hS41 ti23 rfl rfl ?_
  intro b13 w13 hS13; clear hS41
  refine S.storeB (i := 0) hS13 rfl ti23 rfl rfl rfl rfl rfl rfl rfl rfl ?_
  intro w2003 hS2003; clear hS13
  refine S.assignT rfl ?_
  refine WS.done ?_
  refine WR.seq ?_
  refine WR.region rfl ?_
  refine S.loadBA (i := 4) hS2003 rfl Try.underlying23 rfl ti23 rfl rfl rfl rfl ?_
  refine S.call ent12 rfl (l3_of hS2003 ) rfl ?_
  rintro _ w46 ⟨rfl, hS46⟩
  clear hS2003
  refine S.moveT rfl ?_
  refine S.call ent11 rfl (r3_shift hS46 (by exact ha) (by exact hb) (by exact hx)) rfl ?_
  rintro _ w48 ⟨p48, q48, e48, rfl, hG48, hS48⟩
  clear hS46
  refine S.moveT rfl ?_
  refine S.extract rfl rfl rfl ?_
  refine S.extract rfl rfl rfl ?_
  refine S.alloc hS48 ti31 rfl rfl ?_
  intro b15 w15 hS15; clear hS48
  refine S.storeB (i := 0) hS15 rfl ti31 rfl rfl rfl rfl rfl rfl rfl rfl ?_
  intro w2004 hS2004; clear hS15
  refine S.assignT rfl ?_
  refine WS.done ?_
  refine WR.seq ?_
  refine WR.region rfl ?_
  refine S.loadBA (i := 5) hS2004 rfl Try.underlying23 rfl ti23 rfl rfl rfl rfl ?_
  refine S.call ent12 rfl (l3_of hS2004 ) rfl ?_
  rintro _ w53 ⟨rfl, hS53⟩
  clear hS2004
  refine S.moveT rfl ?_
  refine S.moveT rfl ?_
  refine S.call ent13 rfl (r3_grow hS53 (by exact ha) (by exact hb) (by exact hx) (by exact hy)) rfl ?_
  rintro _ w56 ⟨p56, q56, e56, rfl, hG56, hS56⟩
  clear hS53
  refine S.moveT rfl ?_
  refine S.extract rfl rfl rfl ?_
  refine S.extract rfl rfl rfl ?_
  refine S.alloc hS56 ti31 rfl rfl ?_
  intro b17 w17 hS17; clear hS56
  refine S.storeB (i := 0) hS17 rfl ti31 rfl rfl rfl rfl rfl rfl rfl rfl ?_
  intro w2005 hS2005; clear hS17
  refine S.assignT rfl ?_
  refine WS.done ?_
  refine WR.seq ?_
  refine WR.region rfl ?_
  refine S.fieldB Try.underlying23 rfl ti2 rfl rfl rfl rfl ?_
  refine S.loadB (i := 6) hS2005 rfl Try.underlying2 rfl rfl rfl rfl ?_
  refine S.fieldB Try.underlying23 rfl ti2 rfl rfl rfl rfl ?_
  refine S.loadB (i := 6) hS2005 rfl Try.underlying2 rfl rfl rfl rfl ?_
  refine S.leq rfl rfl rfl ?_
  refine S.assignT rfl ?_
  refine WS.done ?_
  refine WR.seq ?_
  refine WR.seq ?_
  refine WR.regionQ mixed hS2005 (by kernel_rfl) rfl ?_
  refine Q.loadBA (i := 6) rfl Try.underlying23 rfl ti23 rfl rfl rfl rfl ?_
  refine Q.call ent14 rfl (fun w hQ => g_right hQ ) rfl ?_
  refine Q.moveT rfl ?_
  refine Q.neqB Try.underlying4 rfl rfl rfl ?_
  refine Q.isB (d := 67) (c := false) rfl (by simp) ?_
  refine Q.moveT rfl ?_
  refine Q.moveT rfl ?_
  refine Q.moveT rfl ?_
  refine Q.neqB Try.underlying4 rfl rfl rfl ?_
  refine Q.isB (d := 71) (c := false) rfl (by simp) ?_
  refine Q.pickF rfl rfl ?_
  refine Q.moveT rfl ?_
  refine Q.loadBA (i := 3) rfl Try.underlying23 rfl ti23 rfl rfl rfl rfl ?_
  refine Q.call ent12 rfl (fun w hQ => l3_of hQ ) rfl ?_
  refine Q.loadBA (i := 1) rfl Try.underlying31 rfl ti31 rfl rfl rfl rfl ?_
  refine Q.neqS rfl rfl (by kernel_rfl) (Eq1.struct Try.underlying31 (by kernel_rfl) (EqF.cons (by decide) (Part1.one Try.underlying2 rfl rfl) (Part1.one Try.underlying2 rfl rfl) (Eq1.int Try.underlying2) (EqF.one (by decide) (Part1.one Try.underlying2 rfl rfl) (Part1.one Try.underlying2 rfl rfl) (Eq1.int Try.underlying2)))) rfl ?_
  refine Q.isFD (d := 77) rfl (by omega) ?_
  refine Q.pickF rfl rfl ?_
  refine Q.moveT rfl ?_
  refine Q.moveT rfl ?_
  refine Q.moveT rfl ?_
  refine Q.neq rfl rfl rfl ?_
  refine Q.isFD (d := 82) rfl (by omega) ?_
  refine Q.pickF rfl rfl ?_
  refine Q.moveT rfl ?_
  refine Q.loadBA (i := 2) rfl Try.underlying23 rfl ti23 rfl rfl rfl rfl ?_
  refine Q.call ent12 rfl (fun w hQ => l3_of hQ ) rfl ?_
  refine Q.loadBA (i := 0) rfl Try.underlying31 rfl ti31 rfl rfl rfl rfl ?_
  refine Q.neqS rfl rfl (by kernel_rfl) (Eq1.struct Try.underlying31 (by kernel_rfl) (EqF.cons (by decide) (Part1.one Try.underlying2 rfl rfl) (Part1.one Try.underlying2 rfl rfl) (Eq1.int Try.underlying2) (EqF.one (by decide) (Part1.one Try.underlying2 rfl rfl) (Part1.one Try.underlying2 rfl rfl) (Eq1.int Try.underlying2)))) rfl ?_
  refine Q.isFD (d := 88) rfl (by omega) ?_
  refine Q.pickF rfl rfl ?_
  refine Q.moveT rfl ?_
  refine Q.moveT rfl ?_
  refine Q.moveT rfl ?_
  refine Q.neq rfl rfl rfl ?_
  refine Q.isFD (d := 93) rfl (by omega) ?_
  refine Q.pickF rfl rfl ?_
  refine Q.moveT rfl ?_
  refine Q.loadBA (i := 6) rfl Try.underlying23 rfl ti23 rfl rfl rfl rfl ?_
  refine Q.call ent15 rfl (fun w hQ => g_mid hQ (by exact ha) (by exact hb)) rfl ?_
  refine Q.loadBA (i := 6) rfl Try.underlying23 rfl ti23 rfl rfl rfl rfl ?_
  refine Q.call ent12 rfl (fun w hQ => l3_of hQ ) rfl ?_
  refine Q.call ent16 rfl (fun w hQ => r3_mid hQ (by exact ha) (by exact hb)) rfl ?_
  refine Q.neq rfl rfl rfl ?_
  refine Q.isFD (d := 101) rfl (by exact fun h => h rfl) ?_
  refine Q.pickF rfl rfl ?_
  refine WQ.done ?_
  intro w5006 hS5006
  clear hS2005
  refine WR.condF rfl ?_
  refine WR.skip ?_
  refine WR.seq ?_
  refine WR.seq ?_
  refine WR.region rfl ?_
  refine S.moveT rfl ?_
  refine S.notD rfl rfl ?_
  refine WS.done ?_
  refine WR.condD rfl (fun c104 => ?_) (fun c104 => ?_)
  ·
    skip
    refine WR.seq ?_
    refine WR.region rfl ?_
    refine S.loadBA (i := 4) hS5006 rfl Try.underlying23 rfl ti23 rfl rfl rfl rfl ?_
    refine S.buildZero ti23 rfl (by kernel_rfl) rfl ?_
    refine S.eqlS rfl rfl (by kernel_rfl) (Eq1.struct Try.underlying23 (by kernel_rfl) (EqF.cons (by decide) (Part1.one Try.underlying2 rfl rfl) (Part1.one Try.underlying2 rfl rfl) (Eq1.int Try.underlying2) (EqF.one (by decide) (Part1.one Try.underlying2 rfl rfl) (Part1.one Try.underlying2 rfl rfl) (Eq1.int Try.underlying2)))) rfl ?_
    refine S.isTD (d := 107) rfl (by omega) ?_
    refine S.moveT rfl ?_
    refine S.loadBA (i := 6) hS5006 rfl Try.underlying23 rfl ti23 rfl rfl rfl rfl ?_
    refine S.moveT rfl ?_
    refine S.call ent17 rfl (g_has hS5006 ) rfl ?_
    rintro _ w111 ⟨rfl, hS111⟩
    clear hS5006
    refine S.isFD (d := 111) rfl (by omega) ?_
    refine S.not rfl rfl ?_
    refine S.pickT rfl rfl ?_
    refine S.moveT rfl ?_
    refine S.loadBA (i := 6) hS111 rfl Try.underlying23 rfl ti23 rfl rfl rfl rfl ?_
    refine S.loadBA (i := 5) hS111 rfl Try.underlying23 rfl ti23 rfl rfl rfl rfl ?_
    refine S.call ent18 rfl (g_within hS111 ) rfl ?_
    rintro _ w117 ⟨rfl, hS117⟩
    clear hS111
    refine S.isFD (d := 117) rfl (by omega) ?_
    refine S.not rfl rfl ?_
    refine S.pickT rfl rfl ?_
    refine S.moveT rfl ?_
    refine S.loadBA (i := 5) hS117 rfl Try.underlying23 rfl ti23 rfl rfl rfl rfl ?_
    refine S.loadBA (i := 6) hS117 rfl Try.underlying23 rfl ti23 rfl rfl rfl rfl ?_
    refine S.call ent18 rfl (g_within hS117 ) rfl ?_
    rintro _ w123 ⟨rfl, hS123⟩
    clear hS117
    refine S.isFD (d := 123) rfl (by omega) ?_
    refine S.not rfl rfl ?_
    refine S.pickT rfl rfl ?_
    refine S.moveT rfl ?_
    refine S.loadBA (i := 6) hS123 rfl Try.underlying23 rfl ti23 rfl rfl rfl rfl ?_
    refine S.call ent19 rfl (g_width hS123 (by exact ha) (by exact hb)) rfl ?_
    rintro _ w128 ⟨rfl, hS128⟩
    clear hS123
    refine S.eql rfl rfl rfl ?_
    refine S.isTD (d := 129) rfl (by omega) ?_
    refine S.pickT rfl rfl ?_
    refine S.assignT rfl ?_
    refine WS.done ?_
    refine WR.ret (ret1 rfl rfl ?_)
    exact ⟨rfl, hS128.drop.drop.drop.drop.drop.drop.drop⟩
  ·
    skip
    refine WR.skip ?_
    refine WR.seq ?_
    refine WR.region rfl ?_
    refine S.fieldB Try.underlying23 rfl ti2 rfl rfl rfl rfl ?_
    refine S.loadB (i := 5) hS5006 rfl Try.underlying2 rfl rfl rfl rfl ?_
    refine S.fieldB Try.underlying23 rfl ti2 rfl rfl rfl rfl ?_
    refine S.loadB (i := 6) hS5006 rfl Try.underlying2 rfl rfl rfl rfl ?_
    refine S.leq rfl rfl rfl ?_
    refine S.moveT rfl ?_
    refine S.splitD (d := 136) rfl (fun c136 => ?_) (fun c136 => ?_)
    ·
      skip
      refine S.fieldB Try.underlying23 rfl ti2 rfl rfl rfl rfl ?_
      refine S.loadB (i := 6) hS5006 rfl Try.underlying2 rfl rfl rfl rfl ?_
      refine S.fieldB Try.underlying23 rfl ti2 rfl rfl rfl rfl ?_
      refine S.loadB (i := 5) hS5006 rfl Try.underlying2 rfl rfl rfl rfl ?_
      refine S.leq rfl rfl rfl ?_
      refine S.pickT rfl rfl ?_
      refine S.assignT rfl ?_
      refine WS.done ?_
      refine WR.seq ?_
      refine WR.regionQ mixed hS5006 (by kernel_rfl) rfl ?_
      refine Q.loadBA (i := 4) rfl Try.underlying23 rfl ti23 rfl rfl rfl rfl ?_
      refine Q.loadBA (i := 6) rfl Try.underlying23 rfl ti23 rfl rfl rfl rfl ?_
      refine Q.eqlS rfl rfl (by kernel_rfl) (Eq1.struct Try.underlying23 (by kernel_rfl) (EqF.cons (by decide) (Part1.one Try.underlying2 rfl rfl) (Part1.one Try.underlying2 rfl rfl) (Eq1.int Try.underlying2) (EqF.one (by decide) (Part1.one Try.underlying2 rfl rfl) (Part1.one Try.underlying2 rfl rfl) (Eq1.int Try.underlying2)))) rfl ?_
      refine Q.isTD (d := 145) rfl (by omega) ?_
      refine Q.moveT rfl ?_
      refine Q.loadBA (i := 6) rfl Try.underlying23 rfl ti23 rfl rfl rfl rfl ?_
      refine Q.moveT rfl ?_
      refine Q.call ent17 rfl (fun w hQ => g_has hQ ) rfl ?_
      refine Q.moveT rfl ?_
      refine Q.fieldB Try.underlying23 rfl ti2 rfl rfl rfl rfl ?_
      refine Q.loadB (i := 6) rfl Try.underlying2 rfl rfl rfl rfl ?_
      refine Q.geq rfl rfl rfl ?_
      refine Q.moveT rfl ?_
      refine Q.splitD (d := 154) rfl (fun c154 => ?_) (fun c154 => ?_)
      ·
        skip
        refine Q.moveT rfl ?_
        refine Q.fieldB Try.underlying23 rfl ti2 rfl rfl rfl rfl ?_
        refine Q.loadB (i := 6) rfl Try.underlying2 rfl rfl rfl rfl ?_
        refine Q.leq rfl rfl rfl ?_
        refine Q.pickT rfl rfl ?_
        refine Q.eqlB Try.underlying4 rfl rfl rfl ?_
        refine Q.isB (d := 160) (c := true) rfl (by rw [beq_iff_eq]; first | exact decide_eq_decide.2 (by omega) | exact decide_eq_false (by omega) | exact decide_eq_true (by omega) | exact (decide_eq_false (by omega)).symm) ?_
        refine Q.pickT rfl rfl ?_
        refine Q.moveT rfl ?_
        refine Q.loadBA (i := 6) rfl Try.underlying23 rfl ti23 rfl rfl rfl rfl ?_
        refine Q.loadBA (i := 5) rfl Try.underlying23 rfl ti23 rfl rfl rfl rfl ?_
        refine Q.call ent18 rfl (fun w hQ => g_within hQ ) rfl ?_
        refine Q.moveT rfl ?_
        refine Q.eqlB Try.underlying4 rfl rfl rfl ?_
        refine Q.isB (d := 167) (c := true) rfl (by rw [beq_iff_eq]; first | exact decide_eq_decide.2 (by omega) | exact decide_eq_false (by omega) | exact decide_eq_true (by omega) | exact (decide_eq_false (by omega)).symm) ?_
        refine Q.pickT rfl rfl ?_
        refine Q.moveT rfl ?_
        refine Q.loadBA (i := 6) rfl Try.underlying23 rfl ti23 rfl rfl rfl rfl ?_
        refine Q.call ent19 rfl (fun w hQ => g_width hQ (by exact ha) (by exact hb)) rfl ?_
        refine Q.fieldB Try.underlying23 rfl ti2 rfl rfl rfl rfl ?_
        refine Q.loadB (i := 6) rfl Try.underlying2 rfl rfl rfl rfl ?_
        first
          | refine Q.convN Try.underlying2 Try.underlying40 rfl rfl (wrap_u64 (by omega) (by omega)) ?_
          | refine Q.conv Try.underlying2 Try.underlying40 rfl rfl ?_
        refine Q.fieldB Try.underlying23 rfl ti2 rfl rfl rfl rfl ?_
        refine Q.loadB (i := 6) rfl Try.underlying2 rfl rfl rfl rfl ?_
        first
          | refine Q.convN Try.underlying2 Try.underlying40 rfl rfl (wrap_u64 (by omega) (by omega)) ?_
          | refine Q.conv Try.underlying2 Try.underlying40 rfl rfl ?_
        first
          | refine Q.subU rfl rfl rfl (by omega) ?_
          | refine Q.sub rfl rfl rfl ?_
        refine Q.eql rfl rfl rfl ?_
        refine Q.isTD (d := 179) rfl (by exact (wd_wrap (by omega) hfa.1 hfb.2).symm) ?_
        refine Q.pickT rfl rfl ?_
        refine Q.assignT rfl ?_
        refine WQ.done ?_
        intro w5007 hS5007
        clear hS5006
        refine WR.ret (ret1 rfl rfl ?_)
        exact ⟨rfl, hS5007.drop.drop.drop.drop.drop.drop.drop⟩
      ·
        skip
        refine Q.off rfl ?_
        refine Q.off rfl ?_
        refine Q.off rfl ?_
        refine Q.off rfl ?_
        refine Q.pickFC rfl rfl ?_
        refine Q.eqlB Try.underlying4 rfl rfl rfl ?_
        refine Q.isB (d := 160) (c := true) rfl (by rw [beq_iff_eq]; first | exact decide_eq_decide.2 (by omega) | exact decide_eq_false (by omega) | exact decide_eq_true (by omega) | exact (decide_eq_false (by omega)).symm) ?_
        refine Q.pickT rfl rfl ?_
        refine Q.moveT rfl ?_
        refine Q.loadBA (i := 6) rfl Try.underlying23 rfl ti23 rfl rfl rfl rfl ?_
        refine Q.loadBA (i := 5) rfl Try.underlying23 rfl ti23 rfl rfl rfl rfl ?_
        refine Q.call ent18 rfl (fun w hQ => g_within hQ ) rfl ?_
        refine Q.moveT rfl ?_
        refine Q.eqlB Try.underlying4 rfl rfl rfl ?_
        refine Q.isB (d := 167) (c := true) rfl (by rw [beq_iff_eq]; first | exact decide_eq_decide.2 (by omega) | exact decide_eq_false (by omega) | exact decide_eq_true (by omega) | exact (decide_eq_false (by omega)).symm) ?_
        refine Q.pickT rfl rfl ?_
        refine Q.moveT rfl ?_
        refine Q.loadBA (i := 6) rfl Try.underlying23 rfl ti23 rfl rfl rfl rfl ?_
        refine Q.call ent19 rfl (fun w hQ => g_width hQ (by exact ha) (by exact hb)) rfl ?_
        refine Q.fieldB Try.underlying23 rfl ti2 rfl rfl rfl rfl ?_
        refine Q.loadB (i := 6) rfl Try.underlying2 rfl rfl rfl rfl ?_
        first
          | refine Q.convN Try.underlying2 Try.underlying40 rfl rfl (wrap_u64 (by omega) (by omega)) ?_
          | refine Q.conv Try.underlying2 Try.underlying40 rfl rfl ?_
        refine Q.fieldB Try.underlying23 rfl ti2 rfl rfl rfl rfl ?_
        refine Q.loadB (i := 6) rfl Try.underlying2 rfl rfl rfl rfl ?_
        first
          | refine Q.convN Try.underlying2 Try.underlying40 rfl rfl (wrap_u64 (by omega) (by omega)) ?_
          | refine Q.conv Try.underlying2 Try.underlying40 rfl rfl ?_
        first
          | refine Q.subU rfl rfl rfl (by omega) ?_
          | refine Q.sub rfl rfl rfl ?_
        refine Q.eql rfl rfl rfl ?_
        refine Q.isTD (d := 179) rfl (by exact (wd_wrap (by omega) hfa.1 hfb.2).symm) ?_
        refine Q.pickT rfl rfl ?_
        refine Q.assignT rfl ?_
        refine WQ.done ?_
        intro w5008 hS5008
        clear hS5006
        refine WR.ret (ret1 rfl rfl ?_)
        exact ⟨rfl, hS5008.drop.drop.drop.drop.drop.drop.drop⟩
    ·
      skip
      refine S.off rfl ?_
      refine S.off rfl ?_
      refine S.off rfl ?_
      refine S.off rfl ?_
      refine S.off rfl ?_
      refine S.pickFC rfl rfl ?_
      refine S.assignT rfl ?_
      refine WS.done ?_
      refine WR.seq ?_
      refine WR.regionQ mixed hS5006 (by kernel_rfl) rfl ?_
      refine Q.loadBA (i := 4) rfl Try.underlying23 rfl ti23 rfl rfl rfl rfl ?_
      refine Q.loadBA (i := 6) rfl Try.underlying23 rfl ti23 rfl rfl rfl rfl ?_
      refine Q.eqlS rfl rfl (by kernel_rfl) (Eq1.struct Try.underlying23 (by kernel_rfl) (EqF.cons (by decide) (Part1.one Try.underlying2 rfl rfl) (Part1.one Try.underlying2 rfl rfl) (Eq1.int Try.underlying2) (EqF.one (by decide) (Part1.one Try.underlying2 rfl rfl) (Part1.one Try.underlying2 rfl rfl) (Eq1.int Try.underlying2)))) rfl ?_
      refine Q.isTD (d := 145) rfl (by omega) ?_
      refine Q.moveT rfl ?_
      refine Q.loadBA (i := 6) rfl Try.underlying23 rfl ti23 rfl rfl rfl rfl ?_
      refine Q.moveT rfl ?_
      refine Q.call ent17 rfl (fun w hQ => g_has hQ ) rfl ?_
      refine Q.moveT rfl ?_
      refine Q.fieldB Try.underlying23 rfl ti2 rfl rfl rfl rfl ?_
      refine Q.loadB (i := 6) rfl Try.underlying2 rfl rfl rfl rfl ?_
      refine Q.geq rfl rfl rfl ?_
      refine Q.moveT rfl ?_
      refine Q.splitD (d := 154) rfl (fun c154 => ?_) (fun c154 => ?_)
      ·
        skip
        refine Q.moveT rfl ?_
        refine Q.fieldB Try.underlying23 rfl ti2 rfl rfl rfl rfl ?_
        refine Q.loadB (i := 6) rfl Try.underlying2 rfl rfl rfl rfl ?_
        refine Q.leq rfl rfl rfl ?_
        refine Q.pickT rfl rfl ?_
        refine Q.eqlB Try.underlying4 rfl rfl rfl ?_
        refine Q.isB (d := 160) (c := true) rfl (by rw [beq_iff_eq]; first | exact decide_eq_decide.2 (by omega) | exact decide_eq_false (by omega) | exact decide_eq_true (by omega) | exact (decide_eq_false (by omega)).symm) ?_
        refine Q.pickT rfl rfl ?_
        refine Q.moveT rfl ?_
        refine Q.loadBA (i := 6) rfl Try.underlying23 rfl ti23 rfl rfl rfl rfl ?_
        refine Q.loadBA (i := 5) rfl Try.underlying23 rfl ti23 rfl rfl rfl rfl ?_
        refine Q.call ent18 rfl (fun w hQ => g_within hQ ) rfl ?_
        refine Q.moveT rfl ?_
        refine Q.eqlB Try.underlying4 rfl rfl rfl ?_
        refine Q.isB (d := 167) (c := true) rfl (by rw [beq_iff_eq]; first | exact decide_eq_decide.2 (by omega) | exact decide_eq_false (by omega) | exact decide_eq_true (by omega) | exact (decide_eq_false (by omega)).symm) ?_
        refine Q.pickT rfl rfl ?_
        refine Q.moveT rfl ?_
        refine Q.loadBA (i := 6) rfl Try.underlying23 rfl ti23 rfl rfl rfl rfl ?_
        refine Q.call ent19 rfl (fun w hQ => g_width hQ (by exact ha) (by exact hb)) rfl ?_
        refine Q.fieldB Try.underlying23 rfl ti2 rfl rfl rfl rfl ?_
        refine Q.loadB (i := 6) rfl Try.underlying2 rfl rfl rfl rfl ?_
        first
          | refine Q.convN Try.underlying2 Try.underlying40 rfl rfl (wrap_u64 (by omega) (by omega)) ?_
          | refine Q.conv Try.underlying2 Try.underlying40 rfl rfl ?_
        refine Q.fieldB Try.underlying23 rfl ti2 rfl rfl rfl rfl ?_
        refine Q.loadB (i := 6) rfl Try.underlying2 rfl rfl rfl rfl ?_
        first
          | refine Q.convN Try.underlying2 Try.underlying40 rfl rfl (wrap_u64 (by omega) (by omega)) ?_
          | refine Q.conv Try.underlying2 Try.underlying40 rfl rfl ?_
        first
          | refine Q.subU rfl rfl rfl (by omega) ?_
          | refine Q.sub rfl rfl rfl ?_
        refine Q.eql rfl rfl rfl ?_
        refine Q.isTD (d := 179) rfl (by exact (wd_wrap (by omega) hfa.1 hfb.2).symm) ?_
        refine Q.pickT rfl rfl ?_
        refine Q.assignT rfl ?_
        refine WQ.done ?_
        intro w5009 hS5009
        clear hS5006
        refine WR.ret (ret1 rfl rfl ?_)
        exact ⟨rfl, hS5009.drop.drop.drop.drop.drop.drop.drop⟩
      ·
        skip
        refine Q.off rfl ?_
        refine Q.off rfl ?_
        refine Q.off rfl ?_
        refine Q.off rfl ?_
        refine Q.pickFC rfl rfl ?_
        refine Q.eqlB Try.underlying4 rfl rfl rfl ?_
        refine Q.isB (d := 160) (c := true) rfl (by rw [beq_iff_eq]; first | exact decide_eq_decide.2 (by omega) | exact decide_eq_false (by omega) | exact decide_eq_true (by omega) | exact (decide_eq_false (by omega)).symm) ?_
        refine Q.pickT rfl rfl ?_
        refine Q.moveT rfl ?_
        refine Q.loadBA (i := 6) rfl Try.underlying23 rfl ti23 rfl rfl rfl rfl ?_
        refine Q.loadBA (i := 5) rfl Try.underlying23 rfl ti23 rfl rfl rfl rfl ?_
        refine Q.call ent18 rfl (fun w hQ => g_within hQ ) rfl ?_
        refine Q.moveT rfl ?_
        refine Q.eqlB Try.underlying4 rfl rfl rfl ?_
        refine Q.isB (d := 167) (c := true) rfl (by rw [beq_iff_eq]; first | exact decide_eq_decide.2 (by omega) | exact decide_eq_false (by omega) | exact decide_eq_true (by omega) | exact (decide_eq_false (by omega)).symm) ?_
        refine Q.pickT rfl rfl ?_
        refine Q.moveT rfl ?_
        refine Q.loadBA (i := 6) rfl Try.underlying23 rfl ti23 rfl rfl rfl rfl ?_
        refine Q.call ent19 rfl (fun w hQ => g_width hQ (by exact ha) (by exact hb)) rfl ?_
        refine Q.fieldB Try.underlying23 rfl ti2 rfl rfl rfl rfl ?_
        refine Q.loadB (i := 6) rfl Try.underlying2 rfl rfl rfl rfl ?_
        first
          | refine Q.convN Try.underlying2 Try.underlying40 rfl rfl (wrap_u64 (by omega) (by omega)) ?_
          | refine Q.conv Try.underlying2 Try.underlying40 rfl rfl ?_
        refine Q.fieldB Try.underlying23 rfl ti2 rfl rfl rfl rfl ?_
        refine Q.loadB (i := 6) rfl Try.underlying2 rfl rfl rfl rfl ?_
        first
          | refine Q.convN Try.underlying2 Try.underlying40 rfl rfl (wrap_u64 (by omega) (by omega)) ?_
          | refine Q.conv Try.underlying2 Try.underlying40 rfl rfl ?_
        first
          | refine Q.subU rfl rfl rfl (by omega) ?_
          | refine Q.sub rfl rfl rfl ?_
        refine Q.eql rfl rfl rfl ?_
        refine Q.isTD (d := 179) rfl (by exact (wd_wrap (by omega) hfa.1 hfb.2).symm) ?_
        refine Q.pickT rfl rfl ?_
        refine Q.assignT rfl ?_
        refine WQ.done ?_
        intro w5010 hS5010
        clear hS5006
        refine WR.ret (ret1 rfl rfl ?_)
        exact ⟨rfl, hS5010.drop.drop.drop.drop.drop.drop.drop⟩


end Go.Proofs.Ytogciedegglogaa.B

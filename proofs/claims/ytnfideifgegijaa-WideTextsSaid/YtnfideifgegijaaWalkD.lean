import Derived.Test.YtnfideifgegijaaWalkC
namespace Go.Proofs.Ytnfideifgegijaa.B
open Go.Proofs Go.RowKit
set_option linter.unusedVariables false
set_option linter.unusedSimpArgs false
theorem same_w {x h l e h' l' : Int} (hs : (wfit x ∧ h = wh x ∧ l = wl x ∧ e = 0) ∨ (¬ wfit x ∧ h = 0 ∧ l = 0 ∧ e = 12)) (hW : (wfit x ∧ h' = wh x ∧ l' = wl x) ∨ (¬ wfit x ∧ h' = 0 ∧ l' = 0)) :
    (wfit x ∧ h = h' ∧ l = l' ∧ e = 0) ∨ (¬ wfit x ∧ h = 0 ∧ l = 0 ∧ e = 12) := by
  rcases hs with ⟨k, h1, h2, h3⟩ | ⟨k, h1, h2, h3⟩ <;> rcases hW with ⟨q, g1, g2⟩ | ⟨q, g1, g2⟩
  · exact .inl ⟨k, h1.trans g1.symm, h2.trans g2.symm, h3⟩
  · exact absurd k q
  · exact absurd q k
  · exact .inr ⟨k, h1, h2, h3⟩
theorem prod_range {a b : Int} (ha : fits a) (hb : fits b) : -170141183460469231731687303715884105728 < a * b ∧ a * b < 170141183460469231731687303715884105728 := by
  have h := Int.natAbs_mul a b
  have h1 : a.natAbs ≤ 9223372036854775808 := by unfold fits at ha; omega
  have h2 : b.natAbs ≤ 9223372036854775808 := by unfold fits at hb; omega
  have h3 := Nat.mul_le_mul h1 h2
  omega
theorem times_wf {a b : Int} (ha : fits a) (hb : fits b) : wfit (a * b) := by have := prod_range ha hb; unfold wfit; omega
theorem fits_wfit {a : Int} (ha : fits a) : wfit a := by unfold fits at ha; unfold wfit; omega
set_option maxRecDepth 100000 in
set_option maxHeartbeats 4000000 in
theorem l2_same {w : World} {R : Kn} {L : List HP}  (hS : St w R (L)) {h l e x : Int} {v2 : Value} (h2 : NumR R v2 x) (hbx : (x.natAbs : Int) < 115792089237316195423570985008687907853269984665640564039457584007913129639936) (hs : (wfit x ∧ h = wh x ∧ l = wl x ∧ e = 0) ∨ (¬ wfit x ∧ h = 0 ∧ l = 0 ∧ e = 12)) :
    Fn Try.prog 14 #[.agg #[.int .i64 (h), .int .u64 (l)], .int .i64 e, v2] w (fun v w' => v = .bool true ∧ St w' R L) := by
  have hM2 := h2
  obtain ⟨ng2, s2, ds2, rfl, hro2, hd2, hcn2, hnz2, hz2⟩ := h2
  obtain ⟨a2, c2, rfl, hl2⟩ := hro2.len
  refine Fn.intro (n := 34) Try.func14 rfl rfl rfl ?_
  refine WR.seq ?_
  refine WR.region rfl ?_
  refine S.box hS rfl rfl rfl ?_
  intro b3 w3 hS3; clear hS
  refine S.box hS3 rfl rfl rfl ?_
  intro b5 w5 hS5; clear hS3
  refine S.assignC rfl ?_
  refine WS.done ?_
  refine WR.seq ?_
  refine WR.region rfl ?_
  refine S.loadBA (i := 0) hS5 rfl Try.underlying34 rfl ti34 rfl rfl rfl rfl ?_
  refine S.call ent29 rfl (r2_words hS5 (by exact hM2) (by omega)) rfl ?_
  rintro _ w12 ⟨h12, l12, rfl, hW12, hS12⟩
  clear hS5
  have hsw := same_w hs hW12
  refine S.moveT rfl ?_
  refine S.extract rfl rfl rfl ?_
  refine S.extract rfl rfl rfl ?_
  refine S.extract rfl rfl rfl ?_
  refine S.assignT rfl ?_
  refine S.assignT rfl ?_
  refine S.assignT rfl ?_
  refine WS.done ?_
  refine WR.seq ?_
  refine WR.seq ?_
  refine WR.region rfl ?_
  refine S.moveT rfl ?_
  refine S.notD rfl rfl ?_
  refine WS.done ?_
  refine WR.condD rfl (fun c17 => ?_) (fun c17 => ?_)
  ·
    skip
    refine WR.seq ?_
    obtain ⟨rfl, rfl, rfl⟩ : h = 0 ∧ l = 0 ∧ e = 12 := by
      rcases hsw with ⟨k, _⟩ | ⟨_, k⟩
      · exact absurd k (by simpa using c17)
      · exact k
    refine WR.region rfl ?_
    refine S.moveT rfl ?_
    refine S.eql rfl rfl rfl ?_
    refine S.isTD (d := 19) rfl (by rfl) ?_
    refine S.moveT rfl ?_
    refine S.loadBA (i := 1) hS12 rfl Try.underlying24 rfl ti24 rfl rfl rfl rfl ?_
    refine S.buildZero ti24 rfl (by kernel_rfl) rfl ?_
    refine S.eqlS rfl rfl (by kernel_rfl) (Eq1.struct Try.underlying24 (by kernel_rfl) (EqF.cons (by decide) (Part1.one Try.underlying2 rfl rfl) (Part1.one Try.underlying2 rfl rfl) (Eq1.int Try.underlying2) (EqF.one (by decide) (Part1.one Try.underlying22 rfl rfl) (Part1.one Try.underlying22 rfl rfl) (Eq1.int Try.underlying22)))) rfl ?_
    refine S.isTD (d := 23) rfl (by exact ⟨rfl, rfl⟩) ?_
    refine S.pickT rfl rfl ?_
    refine S.assignT rfl ?_
    refine WS.done ?_
    refine WR.ret (ret1 rfl rfl ?_)
    exact ⟨rfl, hS12.drop.drop⟩
  ·
    skip
    refine WR.skip ?_
    refine WR.seq ?_
    obtain ⟨rfl, rfl, rfl⟩ : h = h12 ∧ l = l12 ∧ e = 0 := by
      rcases hsw with ⟨_, k⟩ | ⟨k, _⟩
      · exact k
      · exact absurd (by simpa using c17) k
    refine WR.region rfl ?_
    refine S.moveT rfl ?_
    refine S.eql rfl rfl rfl ?_
    refine S.isTD (d := 26) rfl (by rfl) ?_
    refine S.moveT rfl ?_
    refine S.loadBA (i := 1) hS12 rfl Try.underlying24 rfl ti24 rfl rfl rfl rfl ?_
    refine S.moveT rfl ?_
    refine S.moveT rfl ?_
    refine S.buildStruct [.int _ _, .int _ _] [(0, 1), (1, 1)] Try.underlying24 ti24 rfl (by kernel_rfl) rfl rfl rfl rfl rfl rfl ?_
    refine S.eqlS rfl rfl (by kernel_rfl) (Eq1.struct Try.underlying24 (by kernel_rfl) (EqF.cons (by decide) (Part1.one Try.underlying2 rfl rfl) (Part1.one Try.underlying2 rfl rfl) (Eq1.int Try.underlying2) (EqF.one (by decide) (Part1.one Try.underlying22 rfl rfl) (Part1.one Try.underlying22 rfl rfl) (Eq1.int Try.underlying22)))) rfl ?_
    refine S.isTD (d := 32) rfl (by exact ⟨rfl, rfl⟩) ?_
    refine S.pickT rfl rfl ?_
    refine S.assignT rfl ?_
    refine WS.done ?_
    refine WR.ret (ret1 rfl rfl ?_)
    exact ⟨rfl, hS12.drop.drop⟩

set_option maxRecDepth 100000 in
set_option maxHeartbeats 4000000 in
theorem law_WideAnswers {w : World} {R : Kn} {L : List HP}  (hS : St w R (L)) {ah al bh bl : Int} (ha : fits ah) (hal : (0 ≤ al ∧ al < 18446744073709551616)) (hb : fits bh) (hbl : (0 ≤ bl ∧ bl < 18446744073709551616)) :
    Fn Try.prog 3 #[.agg #[.int .i64 (ah), .int .u64 (al)], .agg #[.int .i64 (bh), .int .u64 (bl)]] w (fun v w' => v = .bool true ∧ St w' R L) := by
  have hah := id ha
  have hbh := id hb
  unfold fits at hah hbh
  have hbA : (((ah * 18446744073709551616 + al)).natAbs : Int) < big := lt_big (by omega)
  have hbB : (((bh * 18446744073709551616 + bl)).natAbs : Int) < big := lt_big (by omega)
  refine Fn.intro (n := 80) Try.func3 rfl rfl rfl ?_
  refine WR.seq ?_
  refine WR.region rfl ?_
  refine S.box hS rfl rfl rfl ?_
  intro b2 w2 hS2; clear hS
  refine S.box hS2 rfl rfl rfl ?_
  intro b3 w3 hS3; clear hS2
  refine S.assignC rfl ?_
  refine WS.done ?_
  refine WR.seq ?_
  refine WR.seq ?_
  refine WR.region rfl ?_
  refine S.call ent8 rfl (l2_alive hS3 ) rfl ?_
  rintro _ w13 ⟨rfl, hS13⟩
  clear hS3
  refine S.not rfl rfl ?_
  refine WS.done ?_
  refine WR.condF rfl ?_
  refine WR.skip ?_
  refine WR.seq ?_
  refine WR.region rfl ?_
  refine S.loadBA (i := 1) hS13 rfl Try.underlying24 rfl ti24 rfl rfl rfl rfl ?_
  refine S.loadBA (i := 0) hS13 rfl Try.underlying24 rfl ti24 rfl rfl rfl rfl ?_
  refine S.call ent9 rfl (w_add hS13 (by exact ha) (by exact hal) (by exact hb) (by exact hbl)) rfl ?_
  rintro _ w18 ⟨h18, l18, e18, rfl, hW18, hS18⟩
  clear hS13
  refine S.moveT rfl ?_
  refine S.extract rfl rfl rfl ?_
  refine S.extract rfl rfl rfl ?_
  refine S.alloc hS18 ti24 rfl rfl ?_
  intro b5 w5 hS5; clear hS18
  refine S.storeB (i := 0) hS5 rfl ti24 rfl rfl rfl rfl rfl rfl rfl rfl ?_
  intro w2001 hS2001; clear hS5
  refine S.assignT rfl ?_
  refine WS.done ?_
  refine WR.seq ?_
  refine WR.region rfl ?_
  refine S.loadBA (i := 2) hS2001 rfl Try.underlying24 rfl ti24 rfl rfl rfl rfl ?_
  refine S.loadBA (i := 1) hS2001 rfl Try.underlying24 rfl ti24 rfl rfl rfl rfl ?_
  refine S.call ent10 rfl (w_sub hS2001 (by exact ha) (by exact hal) (by exact hb) (by exact hbl)) rfl ?_
  rintro _ w24 ⟨h24, l24, e24, rfl, hW24, hS24⟩
  clear hS2001
  rw [Int.sub_eq_add_neg] at hW24
  refine S.moveT rfl ?_
  refine S.extract rfl rfl rfl ?_
  refine S.extract rfl rfl rfl ?_
  refine S.alloc hS24 ti24 rfl rfl ?_
  intro b7 w7 hS7; clear hS24
  refine S.storeB (i := 0) hS7 rfl ti24 rfl rfl rfl rfl rfl rfl rfl rfl ?_
  intro w2002 hS2002; clear hS7
  refine S.assignT rfl ?_
  refine WS.done ?_
  refine WR.seq ?_
  refine WR.region rfl ?_
  refine S.loadBA (i := 3) hS2002 rfl Try.underlying24 rfl ti24 rfl rfl rfl rfl ?_
  refine S.call ent11 rfl (w_long hS2002 (by exact ha) (by exact hal)) rfl ?_
  rintro _ w29 ⟨x29, rfl, hx29, hy29, hS29⟩
  clear hS2002
  refine S.moveT rfl ?_
  refine S.extract rfl rfl rfl ?_
  refine S.extract rfl rfl rfl ?_
  refine S.assignT rfl ?_
  refine S.assignT rfl ?_
  refine WS.done ?_
  refine WR.seq ?_
  refine WR.region rfl ?_
  refine S.loadBA (i := 3) hS29 rfl Try.underlying24 rfl ti24 rfl rfl rfl rfl ?_
  refine S.call ent13 rfl (l2_num hS29 (by exact ha) (by exact hal)) rfl ?_
  rintro v34 w34 ⟨R34, hR34, hN34, hS34⟩
  clear hS29
  have hM34 := hN34
  obtain ⟨ng34, s34, ds34, rfl, hro34, hd34, hcn34, hnz34, hz34⟩ := hN34
  obtain ⟨aa34, cc34, rfl, hll34⟩ := hro34.len
  refine S.call ent12 rfl (r_long hS34 (by exact hM34)) rfl ?_
  rintro _ w35 ⟨x35, rfl, hf35, hS35⟩
  clear hS34
  refine S.moveT rfl ?_
  refine S.extract rfl rfl rfl ?_
  refine S.extract rfl rfl rfl ?_
  refine S.assignT rfl ?_
  refine S.assignT rfl ?_
  refine WS.done ?_
  refine WR.seq ?_
  refine WR.seq ?_
  refine WR.region rfl ?_
  refine S.moveT rfl ?_
  refine S.not rfl rfl ?_
  refine WS.done ?_
  refine WR.cond rfl (fun c39 => ?_) (fun c39 => ?_)
  ·
    skip
    refine WR.region rfl ?_
    refine S.assignC rfl ?_
    refine WS.done ?_
    refine WR.seq ?_
    refine WR.regionW (fun j => false) 41 rfl mixed hS35 ?_
    intro w6003 hS6003; clear hS35; have hC := hS6003
    refine WA.take (fuel := 40) 0 rfl (by kernel_rfl) (by kernel_rfl) (by kernel_rfl) (by kernel_rfl) rfl rfl hC ?_
    refine Q.loadBA (i := 1) rfl Try.underlying24 rfl ti24 rfl rfl rfl rfl ?_
    refine WQ.done ?_
    refine WA.take (fuel := 39) 1 rfl (by kernel_rfl) (by kernel_rfl) (by kernel_rfl) (by kernel_rfl) rfl rfl hC ?_
    refine Q.moveT rfl ?_
    refine WQ.done ?_
    refine WA.take (fuel := 38) 2 rfl (by kernel_rfl) (by kernel_rfl) (by kernel_rfl) (by kernel_rfl) rfl rfl hC ?_
    refine Q.loadBA (i := 3) rfl Try.underlying24 rfl ti24 rfl rfl rfl rfl ?_
    refine WQ.done ?_
    refine WA.take (fuel := 37) 4 rfl (by kernel_rfl) (by kernel_rfl) (by kernel_rfl) (by kernel_rfl) rfl rfl hC ?_
    refine Q.loadBA (i := 2) rfl Try.underlying24 rfl ti24 rfl rfl rfl rfl ?_
    refine WQ.done ?_
    refine WA.one (fuel := 36) 3 rfl (by kernel_rfl) rfl ?_
    refine S.call ent13 rfl (l2_num hS6003 (by exact ha) (by exact hal)) rfl ?_
    rintro v43 w43 ⟨R43, hR43, hN43, hS43⟩
    clear hS6003
    have hM43 := hN43
    obtain ⟨ng43, s43, ds43, rfl, hro43, hd43, hcn43, hnz43, hz43⟩ := hN43
    obtain ⟨aa43, cc43, rfl, hll43⟩ := hro43.len
    replace hro34 := hro34.mono hR43
    refine WS.done ⟨fun _ => (hS43.weak hR43), ?_⟩
    replace hC := (hS43.weak hR43)
    refine WA.one (fuel := 35) 5 rfl (by kernel_rfl) rfl ?_
    refine S.call ent13 rfl (l2_num hS43 (by exact hb) (by exact hbl)) rfl ?_
    rintro v45 w45 ⟨R45, hR45, hN45, hS45⟩
    clear hS43
    have hM45 := hN45
    obtain ⟨ng45, s45, ds45, rfl, hro45, hd45, hcn45, hnz45, hz45⟩ := hN45
    obtain ⟨aa45, cc45, rfl, hll45⟩ := hro45.len
    replace hro34 := hro34.mono hR45
    replace hro43 := hro43.mono hR45
    refine WS.done ⟨fun _ => ((hS45.weak hR45).weak hR43), ?_⟩
    replace hC := ((hS45.weak hR45).weak hR43)
    refine WA.one (fuel := 34) 6 rfl (by kernel_rfl) rfl ?_
    refine S.call ent15 rfl (r_add hS45 (by exact hM43.mono hR45) (by exact hM45) (by exact hbA) (by exact hbB)) rfl ?_
    rintro v46 w46 ⟨R46, hR46, hN46, hS46⟩
    clear hS45
    have hM46 := hN46
    obtain ⟨ng46, s46, ds46, rfl, hro46, hd46, hcn46, hnz46, hz46⟩ := hN46
    obtain ⟨aa46, cc46, rfl, hll46⟩ := hro46.len
    replace hro34 := hro34.mono hR46
    replace hro43 := hro43.mono hR46
    replace hro45 := hro45.mono hR46
    refine WS.done ⟨fun _ => (((hS46.weak hR46).weak hR45).weak hR43), ?_⟩
    replace hC := (((hS46.weak hR46).weak hR45).weak hR43)
    refine WA.one (fuel := 33) 7 rfl (by kernel_rfl) rfl ?_
    refine S.call ent14 rfl (l2_same hS46 (by exact hM46) (by omega) (by exact hW18)) rfl ?_
    rintro _ w47 ⟨rfl, hS47⟩
    clear hS46
    refine WS.done ⟨fun _ => (((hS47.weak hR46).weak hR45).weak hR43), ?_⟩
    replace hC := (((hS47.weak hR46).weak hR45).weak hR43)
    refine WA.take (fuel := 32) 8 rfl (by kernel_rfl) (by kernel_rfl) (by kernel_rfl) (by kernel_rfl) rfl rfl hC ?_
    refine Q.moveT rfl ?_
    refine WQ.done ?_
    refine WA.take (fuel := 31) 9 rfl (by kernel_rfl) (by kernel_rfl) (by kernel_rfl) (by kernel_rfl) rfl rfl hC ?_
    refine Q.loadBA (i := 0) rfl Try.underlying24 rfl ti24 rfl rfl rfl rfl ?_
    refine WQ.done ?_
    refine WA.take (fuel := 30) 10 rfl (by kernel_rfl) (by kernel_rfl) (by kernel_rfl) (by kernel_rfl) rfl rfl hC ?_
    refine Q.moveT rfl ?_
    refine WQ.done ?_
    refine WA.take (fuel := 29) 11 rfl (by kernel_rfl) (by kernel_rfl) (by kernel_rfl) (by kernel_rfl) rfl rfl hC ?_
    refine Q.loadBA (i := 3) rfl Try.underlying24 rfl ti24 rfl rfl rfl rfl ?_
    refine WQ.done ?_
    refine WA.take (fuel := 28) 13 rfl (by kernel_rfl) (by kernel_rfl) (by kernel_rfl) (by kernel_rfl) rfl rfl hC ?_
    refine Q.loadBA (i := 2) rfl Try.underlying24 rfl ti24 rfl rfl rfl rfl ?_
    refine WQ.done ?_
    refine WA.one (fuel := 27) 12 rfl (by kernel_rfl) rfl ?_
    refine S.call ent13 rfl (l2_num hS47 (by exact ha) (by exact hal)) rfl ?_
    rintro v52 w52 ⟨R52, hR52, hN52, hS52⟩
    clear hS47
    have hM52 := hN52
    obtain ⟨ng52, s52, ds52, rfl, hro52, hd52, hcn52, hnz52, hz52⟩ := hN52
    obtain ⟨aa52, cc52, rfl, hll52⟩ := hro52.len
    replace hro34 := hro34.mono hR52
    replace hro43 := hro43.mono hR52
    replace hro45 := hro45.mono hR52
    replace hro46 := hro46.mono hR52
    refine WS.done ⟨fun _ => ((((hS52.weak hR52).weak hR46).weak hR45).weak hR43), ?_⟩
    replace hC := ((((hS52.weak hR52).weak hR46).weak hR45).weak hR43)
    refine WA.one (fuel := 26) 14 rfl (by kernel_rfl) rfl ?_
    refine S.call ent13 rfl (l2_num hS52 (by exact hb) (by exact hbl)) rfl ?_
    rintro v54 w54 ⟨R54, hR54, hN54, hS54⟩
    clear hS52
    have hM54 := hN54
    obtain ⟨ng54, s54, ds54, rfl, hro54, hd54, hcn54, hnz54, hz54⟩ := hN54
    obtain ⟨aa54, cc54, rfl, hll54⟩ := hro54.len
    replace hro34 := hro34.mono hR54
    replace hro43 := hro43.mono hR54
    replace hro45 := hro45.mono hR54
    replace hro46 := hro46.mono hR54
    replace hro52 := hro52.mono hR54
    refine WS.done ⟨fun _ => (((((hS54.weak hR54).weak hR52).weak hR46).weak hR45).weak hR43), ?_⟩
    replace hC := (((((hS54.weak hR54).weak hR52).weak hR46).weak hR45).weak hR43)
    refine WA.one (fuel := 25) 15 rfl (by kernel_rfl) rfl ?_
    refine S.call ent16 rfl (r_neg hS54 (by exact hM54) (by exact hbB)) rfl ?_
    rintro v55 w55 ⟨hN55, hS55⟩
    clear hS54
    have hM55 := hN55
    obtain ⟨ng55, s55, ds55, rfl, hro55, hd55, hcn55, hnz55, hz55⟩ := hN55
    obtain ⟨aa55, cc55, rfl, hll55⟩ := hro55.len
    refine WS.done ⟨fun _ => (((((hS55.weak hR54).weak hR52).weak hR46).weak hR45).weak hR43), ?_⟩
    replace hC := (((((hS55.weak hR54).weak hR52).weak hR46).weak hR45).weak hR43)
    refine WA.one (fuel := 24) 16 rfl (by kernel_rfl) rfl ?_
    refine S.call ent15 rfl (r_add hS55 (by exact hM52.mono hR54) (by exact hM55) (by exact hbA) (by rw [Int.natAbs_neg]; exact hbB)) rfl ?_
    rintro v56 w56 ⟨R56, hR56, hN56, hS56⟩
    clear hS55
    have hM56 := hN56
    obtain ⟨ng56, s56, ds56, rfl, hro56, hd56, hcn56, hnz56, hz56⟩ := hN56
    obtain ⟨aa56, cc56, rfl, hll56⟩ := hro56.len
    replace hro34 := hro34.mono hR56
    replace hro43 := hro43.mono hR56
    replace hro45 := hro45.mono hR56
    replace hro46 := hro46.mono hR56
    replace hro52 := hro52.mono hR56
    replace hro54 := hro54.mono hR56
    replace hro55 := hro55.mono hR56
    refine WS.done ⟨fun _ => ((((((hS56.weak hR56).weak hR54).weak hR52).weak hR46).weak hR45).weak hR43), ?_⟩
    replace hC := ((((((hS56.weak hR56).weak hR54).weak hR52).weak hR46).weak hR45).weak hR43)
    refine WA.one (fuel := 23) 17 rfl (by kernel_rfl) rfl ?_
    refine S.call ent14 rfl (l2_same hS56 (by exact hM56) (by omega) (by exact hW24)) rfl ?_
    rintro _ w57 ⟨rfl, hS57⟩
    clear hS56
    refine WS.done ⟨fun _ => ((((((hS57.weak hR56).weak hR54).weak hR52).weak hR46).weak hR45).weak hR43), ?_⟩
    replace hC := ((((((hS57.weak hR56).weak hR54).weak hR52).weak hR46).weak hR45).weak hR43)
    refine WA.take (fuel := 22) 18 rfl (by kernel_rfl) (by kernel_rfl) (by kernel_rfl) (by kernel_rfl) rfl rfl hC ?_
    refine Q.pickT rfl rfl ?_
    refine WQ.done ?_
    refine WA.take (fuel := 21) 19 rfl (by kernel_rfl) (by kernel_rfl) (by kernel_rfl) (by kernel_rfl) rfl rfl hC ?_
    refine Q.moveT rfl ?_
    refine WQ.done ?_
    refine WA.take (fuel := 20) 20 rfl (by kernel_rfl) (by kernel_rfl) (by kernel_rfl) (by kernel_rfl) rfl rfl hC ?_
    refine Q.loadBA (i := 3) rfl Try.underlying24 rfl ti24 rfl rfl rfl rfl ?_
    refine WQ.done ?_
    refine WA.take (fuel := 19) 21 rfl (by kernel_rfl) (by kernel_rfl) (by kernel_rfl) (by kernel_rfl) rfl rfl hC ?_
    refine Q.loadBA (i := 2) rfl Try.underlying24 rfl ti24 rfl rfl rfl rfl ?_
    refine WQ.done ?_
    refine WA.take (fuel := 18) 23 rfl (by kernel_rfl) (by kernel_rfl) (by kernel_rfl) (by kernel_rfl) rfl rfl hC ?_
    refine Q.loadBA (i := 3) rfl Try.underlying24 rfl ti24 rfl rfl rfl rfl ?_
    refine WQ.done ?_
    refine WA.take (fuel := 17) 25 rfl (by kernel_rfl) (by kernel_rfl) (by kernel_rfl) (by kernel_rfl) rfl rfl hC ?_
    refine Q.loadBA (i := 2) rfl Try.underlying24 rfl ti24 rfl rfl rfl rfl ?_
    refine WQ.done ?_
    refine WA.one (fuel := 16) 22 rfl (by kernel_rfl) rfl ?_
    refine S.call ent17 rfl (w_cmp hS57 (by exact hal) (by exact hbl)) rfl ?_
    rintro _ w62 ⟨rfl, hS62⟩
    clear hS57
    refine WS.done ⟨fun _ => ((((((hS62.weak hR56).weak hR54).weak hR52).weak hR46).weak hR45).weak hR43), ?_⟩
    replace hC := ((((((hS62.weak hR56).weak hR54).weak hR52).weak hR46).weak hR45).weak hR43)
    refine WA.one (fuel := 15) 24 rfl (by kernel_rfl) rfl ?_
    refine S.call ent13 rfl (l2_num hS62 (by exact ha) (by exact hal)) rfl ?_
    rintro v64 w64 ⟨R64, hR64, hN64, hS64⟩
    clear hS62
    have hM64 := hN64
    obtain ⟨ng64, s64, ds64, rfl, hro64, hd64, hcn64, hnz64, hz64⟩ := hN64
    obtain ⟨aa64, cc64, rfl, hll64⟩ := hro64.len
    replace hro34 := hro34.mono hR64
    replace hro43 := hro43.mono hR64
    replace hro45 := hro45.mono hR64
    replace hro46 := hro46.mono hR64
    replace hro52 := hro52.mono hR64
    replace hro54 := hro54.mono hR64
    replace hro55 := hro55.mono hR64
    replace hro56 := hro56.mono hR64
    refine WS.done ⟨fun _ => (((((((hS64.weak hR64).weak hR56).weak hR54).weak hR52).weak hR46).weak hR45).weak hR43), ?_⟩
    replace hC := (((((((hS64.weak hR64).weak hR56).weak hR54).weak hR52).weak hR46).weak hR45).weak hR43)
    refine WA.one (fuel := 14) 26 rfl (by kernel_rfl) rfl ?_
    refine S.call ent13 rfl (l2_num hS64 (by exact hb) (by exact hbl)) rfl ?_
    rintro v66 w66 ⟨R66, hR66, hN66, hS66⟩
    clear hS64
    have hM66 := hN66
    obtain ⟨ng66, s66, ds66, rfl, hro66, hd66, hcn66, hnz66, hz66⟩ := hN66
    obtain ⟨aa66, cc66, rfl, hll66⟩ := hro66.len
    replace hro34 := hro34.mono hR66
    replace hro43 := hro43.mono hR66
    replace hro45 := hro45.mono hR66
    replace hro46 := hro46.mono hR66
    replace hro52 := hro52.mono hR66
    replace hro54 := hro54.mono hR66
    replace hro55 := hro55.mono hR66
    replace hro56 := hro56.mono hR66
    replace hro64 := hro64.mono hR66
    refine WS.done ⟨fun _ => ((((((((hS66.weak hR66).weak hR64).weak hR56).weak hR54).weak hR52).weak hR46).weak hR45).weak hR43), ?_⟩
    replace hC := ((((((((hS66.weak hR66).weak hR64).weak hR56).weak hR54).weak hR52).weak hR46).weak hR45).weak hR43)
    refine WA.one (fuel := 13) 27 rfl (by kernel_rfl) rfl ?_
    refine S.call ent18 rfl (r_cmp hS66 (by exact hM64.mono hR66) (by exact hM66) (by exact hbA) (by exact hbB)) rfl ?_
    rintro _ w67 ⟨rfl, hS67⟩
    clear hS66
    refine WS.done ⟨fun _ => ((((((((hS67.weak hR66).weak hR64).weak hR56).weak hR54).weak hR52).weak hR46).weak hR45).weak hR43), ?_⟩
    replace hC := ((((((((hS67.weak hR66).weak hR64).weak hR56).weak hR54).weak hR52).weak hR46).weak hR45).weak hR43)
    refine WA.take (fuel := 12) 28 rfl (by kernel_rfl) (by kernel_rfl) (by kernel_rfl) (by kernel_rfl) rfl rfl hC ?_
    refine Q.eql rfl rfl rfl ?_
    refine Q.isTD (d := 68) rfl (by rfl) ?_
    refine WQ.done ?_
    refine WA.take (fuel := 11) 29 rfl (by kernel_rfl) (by kernel_rfl) (by kernel_rfl) (by kernel_rfl) rfl rfl hC ?_
    refine Q.pickT rfl rfl ?_
    refine WQ.done ?_
    refine WA.take (fuel := 10) 30 rfl (by kernel_rfl) (by kernel_rfl) (by kernel_rfl) (by kernel_rfl) rfl rfl hC ?_
    refine Q.moveT rfl ?_
    refine WQ.done ?_
    refine WA.take (fuel := 9) 31 rfl (by kernel_rfl) (by kernel_rfl) (by kernel_rfl) (by kernel_rfl) rfl rfl hC ?_
    refine Q.moveT rfl ?_
    refine WQ.done ?_
    refine WA.take (fuel := 8) 32 rfl (by kernel_rfl) (by kernel_rfl) (by kernel_rfl) (by kernel_rfl) rfl rfl hC ?_
    refine Q.moveT rfl ?_
    refine WQ.done ?_
    refine WA.take (fuel := 7) 33 rfl (by kernel_rfl) (by kernel_rfl) (by kernel_rfl) (by kernel_rfl) rfl rfl hC ?_
    refine Q.eql rfl rfl rfl ?_
    refine Q.isTD (d := 73) rfl (by first | exact (hx29 (by simpa using c39)).trans (hf35 (by simpa using c39)).symm | exact hy29 (by simpa using c39)) ?_
    refine WQ.done ?_
    refine WA.take (fuel := 6) 34 rfl (by kernel_rfl) (by kernel_rfl) (by kernel_rfl) (by kernel_rfl) rfl rfl hC ?_
    refine Q.pickT rfl rfl ?_
    refine WQ.done ?_
    refine WA.take (fuel := 5) 35 rfl (by kernel_rfl) (by kernel_rfl) (by kernel_rfl) (by kernel_rfl) rfl rfl hC ?_
    refine Q.moveT rfl ?_
    refine WQ.done ?_
    refine WA.take (fuel := 4) 36 rfl (by kernel_rfl) (by kernel_rfl) (by kernel_rfl) (by kernel_rfl) rfl rfl hC ?_
    refine Q.moveT rfl ?_
    refine WQ.done ?_
    refine WA.take (fuel := 3) 37 rfl (by kernel_rfl) (by kernel_rfl) (by kernel_rfl) (by kernel_rfl) rfl rfl hC ?_
    refine Q.moveT rfl ?_
    refine WQ.done ?_
    refine WA.take (fuel := 2) 38 rfl (by kernel_rfl) (by kernel_rfl) (by kernel_rfl) (by kernel_rfl) rfl rfl hC ?_
    refine Q.eqlB Try.underlying4 rfl rfl rfl ?_
    refine Q.isB (d := 78) (c := true) rfl (by simp) ?_
    refine WQ.done ?_
    refine WA.take (fuel := 1) 39 rfl (by kernel_rfl) (by kernel_rfl) (by kernel_rfl) (by kernel_rfl) rfl rfl hC ?_
    refine Q.pickT rfl rfl ?_
    refine WQ.done ?_
    refine WA.take (fuel := 0) 40 rfl (by kernel_rfl) (by kernel_rfl) (by kernel_rfl) (by kernel_rfl) rfl rfl hC ?_
    refine Q.assignT rfl ?_
    refine WQ.done ?_
    refine WA.done (by kernel_rfl) ?_
    clear hC
    refine WR.ret (ret1 rfl rfl ?_)
    first | exact ⟨rfl, hS67.drop.drop.drop.drop⟩ | exact ⟨rfl, hS67.drop.drop.drop.drop.weak (hR34.trans (hR43.trans (hR45.trans (hR46.trans (hR52.trans (hR54.trans (hR56.trans (hR64.trans hR66))))))))⟩
  ·
    skip
    refine WR.skip ?_
    refine WR.seq ?_
    refine WR.regionW (fun j => false) 41 rfl mixed hS35 ?_
    intro w6004 hS6004; clear hS35; have hC := hS6004
    refine WA.take (fuel := 40) 0 rfl (by kernel_rfl) (by kernel_rfl) (by kernel_rfl) (by kernel_rfl) rfl rfl hC ?_
    refine Q.loadBA (i := 1) rfl Try.underlying24 rfl ti24 rfl rfl rfl rfl ?_
    refine WQ.done ?_
    refine WA.take (fuel := 39) 1 rfl (by kernel_rfl) (by kernel_rfl) (by kernel_rfl) (by kernel_rfl) rfl rfl hC ?_
    refine Q.moveT rfl ?_
    refine WQ.done ?_
    refine WA.take (fuel := 38) 2 rfl (by kernel_rfl) (by kernel_rfl) (by kernel_rfl) (by kernel_rfl) rfl rfl hC ?_
    refine Q.loadBA (i := 3) rfl Try.underlying24 rfl ti24 rfl rfl rfl rfl ?_
    refine WQ.done ?_
    refine WA.take (fuel := 37) 4 rfl (by kernel_rfl) (by kernel_rfl) (by kernel_rfl) (by kernel_rfl) rfl rfl hC ?_
    refine Q.loadBA (i := 2) rfl Try.underlying24 rfl ti24 rfl rfl rfl rfl ?_
    refine WQ.done ?_
    refine WA.one (fuel := 36) 3 rfl (by kernel_rfl) rfl ?_
    refine S.call ent13 rfl (l2_num hS6004 (by exact ha) (by exact hal)) rfl ?_
    rintro v43 w43 ⟨R43, hR43, hN43, hS43⟩
    clear hS6004
    have hM43 := hN43
    obtain ⟨ng43, s43, ds43, rfl, hro43, hd43, hcn43, hnz43, hz43⟩ := hN43
    obtain ⟨aa43, cc43, rfl, hll43⟩ := hro43.len
    replace hro34 := hro34.mono hR43
    refine WS.done ⟨fun _ => (hS43.weak hR43), ?_⟩
    replace hC := (hS43.weak hR43)
    refine WA.one (fuel := 35) 5 rfl (by kernel_rfl) rfl ?_
    refine S.call ent13 rfl (l2_num hS43 (by exact hb) (by exact hbl)) rfl ?_
    rintro v45 w45 ⟨R45, hR45, hN45, hS45⟩
    clear hS43
    have hM45 := hN45
    obtain ⟨ng45, s45, ds45, rfl, hro45, hd45, hcn45, hnz45, hz45⟩ := hN45
    obtain ⟨aa45, cc45, rfl, hll45⟩ := hro45.len
    replace hro34 := hro34.mono hR45
    replace hro43 := hro43.mono hR45
    refine WS.done ⟨fun _ => ((hS45.weak hR45).weak hR43), ?_⟩
    replace hC := ((hS45.weak hR45).weak hR43)
    refine WA.one (fuel := 34) 6 rfl (by kernel_rfl) rfl ?_
    refine S.call ent15 rfl (r_add hS45 (by exact hM43.mono hR45) (by exact hM45) (by exact hbA) (by exact hbB)) rfl ?_
    rintro v46 w46 ⟨R46, hR46, hN46, hS46⟩
    clear hS45
    have hM46 := hN46
    obtain ⟨ng46, s46, ds46, rfl, hro46, hd46, hcn46, hnz46, hz46⟩ := hN46
    obtain ⟨aa46, cc46, rfl, hll46⟩ := hro46.len
    replace hro34 := hro34.mono hR46
    replace hro43 := hro43.mono hR46
    replace hro45 := hro45.mono hR46
    refine WS.done ⟨fun _ => (((hS46.weak hR46).weak hR45).weak hR43), ?_⟩
    replace hC := (((hS46.weak hR46).weak hR45).weak hR43)
    refine WA.one (fuel := 33) 7 rfl (by kernel_rfl) rfl ?_
    refine S.call ent14 rfl (l2_same hS46 (by exact hM46) (by omega) (by exact hW18)) rfl ?_
    rintro _ w47 ⟨rfl, hS47⟩
    clear hS46
    refine WS.done ⟨fun _ => (((hS47.weak hR46).weak hR45).weak hR43), ?_⟩
    replace hC := (((hS47.weak hR46).weak hR45).weak hR43)
    refine WA.take (fuel := 32) 8 rfl (by kernel_rfl) (by kernel_rfl) (by kernel_rfl) (by kernel_rfl) rfl rfl hC ?_
    refine Q.moveT rfl ?_
    refine WQ.done ?_
    refine WA.take (fuel := 31) 9 rfl (by kernel_rfl) (by kernel_rfl) (by kernel_rfl) (by kernel_rfl) rfl rfl hC ?_
    refine Q.loadBA (i := 0) rfl Try.underlying24 rfl ti24 rfl rfl rfl rfl ?_
    refine WQ.done ?_
    refine WA.take (fuel := 30) 10 rfl (by kernel_rfl) (by kernel_rfl) (by kernel_rfl) (by kernel_rfl) rfl rfl hC ?_
    refine Q.moveT rfl ?_
    refine WQ.done ?_
    refine WA.take (fuel := 29) 11 rfl (by kernel_rfl) (by kernel_rfl) (by kernel_rfl) (by kernel_rfl) rfl rfl hC ?_
    refine Q.loadBA (i := 3) rfl Try.underlying24 rfl ti24 rfl rfl rfl rfl ?_
    refine WQ.done ?_
    refine WA.take (fuel := 28) 13 rfl (by kernel_rfl) (by kernel_rfl) (by kernel_rfl) (by kernel_rfl) rfl rfl hC ?_
    refine Q.loadBA (i := 2) rfl Try.underlying24 rfl ti24 rfl rfl rfl rfl ?_
    refine WQ.done ?_
    refine WA.one (fuel := 27) 12 rfl (by kernel_rfl) rfl ?_
    refine S.call ent13 rfl (l2_num hS47 (by exact ha) (by exact hal)) rfl ?_
    rintro v52 w52 ⟨R52, hR52, hN52, hS52⟩
    clear hS47
    have hM52 := hN52
    obtain ⟨ng52, s52, ds52, rfl, hro52, hd52, hcn52, hnz52, hz52⟩ := hN52
    obtain ⟨aa52, cc52, rfl, hll52⟩ := hro52.len
    replace hro34 := hro34.mono hR52
    replace hro43 := hro43.mono hR52
    replace hro45 := hro45.mono hR52
    replace hro46 := hro46.mono hR52
    refine WS.done ⟨fun _ => ((((hS52.weak hR52).weak hR46).weak hR45).weak hR43), ?_⟩
    replace hC := ((((hS52.weak hR52).weak hR46).weak hR45).weak hR43)
    refine WA.one (fuel := 26) 14 rfl (by kernel_rfl) rfl ?_
    refine S.call ent13 rfl (l2_num hS52 (by exact hb) (by exact hbl)) rfl ?_
    rintro v54 w54 ⟨R54, hR54, hN54, hS54⟩
    clear hS52
    have hM54 := hN54
    obtain ⟨ng54, s54, ds54, rfl, hro54, hd54, hcn54, hnz54, hz54⟩ := hN54
    obtain ⟨aa54, cc54, rfl, hll54⟩ := hro54.len
    replace hro34 := hro34.mono hR54
    replace hro43 := hro43.mono hR54
    replace hro45 := hro45.mono hR54
    replace hro46 := hro46.mono hR54
    replace hro52 := hro52.mono hR54
    refine WS.done ⟨fun _ => (((((hS54.weak hR54).weak hR52).weak hR46).weak hR45).weak hR43), ?_⟩
    replace hC := (((((hS54.weak hR54).weak hR52).weak hR46).weak hR45).weak hR43)
    refine WA.one (fuel := 25) 15 rfl (by kernel_rfl) rfl ?_
    refine S.call ent16 rfl (r_neg hS54 (by exact hM54) (by exact hbB)) rfl ?_
    rintro v55 w55 ⟨hN55, hS55⟩
    clear hS54
    have hM55 := hN55
    obtain ⟨ng55, s55, ds55, rfl, hro55, hd55, hcn55, hnz55, hz55⟩ := hN55
    obtain ⟨aa55, cc55, rfl, hll55⟩ := hro55.len
    refine WS.done ⟨fun _ => (((((hS55.weak hR54).weak hR52).weak hR46).weak hR45).weak hR43), ?_⟩
    replace hC := (((((hS55.weak hR54).weak hR52).weak hR46).weak hR45).weak hR43)
    refine WA.one (fuel := 24) 16 rfl (by kernel_rfl) rfl ?_
    refine S.call ent15 rfl (r_add hS55 (by exact hM52.mono hR54) (by exact hM55) (by exact hbA) (by rw [Int.natAbs_neg]; exact hbB)) rfl ?_
    rintro v56 w56 ⟨R56, hR56, hN56, hS56⟩
    clear hS55
    have hM56 := hN56
    obtain ⟨ng56, s56, ds56, rfl, hro56, hd56, hcn56, hnz56, hz56⟩ := hN56
    obtain ⟨aa56, cc56, rfl, hll56⟩ := hro56.len
    replace hro34 := hro34.mono hR56
    replace hro43 := hro43.mono hR56
    replace hro45 := hro45.mono hR56
    replace hro46 := hro46.mono hR56
    replace hro52 := hro52.mono hR56
    replace hro54 := hro54.mono hR56
    replace hro55 := hro55.mono hR56
    refine WS.done ⟨fun _ => ((((((hS56.weak hR56).weak hR54).weak hR52).weak hR46).weak hR45).weak hR43), ?_⟩
    replace hC := ((((((hS56.weak hR56).weak hR54).weak hR52).weak hR46).weak hR45).weak hR43)
    refine WA.one (fuel := 23) 17 rfl (by kernel_rfl) rfl ?_
    refine S.call ent14 rfl (l2_same hS56 (by exact hM56) (by omega) (by exact hW24)) rfl ?_
    rintro _ w57 ⟨rfl, hS57⟩
    clear hS56
    refine WS.done ⟨fun _ => ((((((hS57.weak hR56).weak hR54).weak hR52).weak hR46).weak hR45).weak hR43), ?_⟩
    replace hC := ((((((hS57.weak hR56).weak hR54).weak hR52).weak hR46).weak hR45).weak hR43)
    refine WA.take (fuel := 22) 18 rfl (by kernel_rfl) (by kernel_rfl) (by kernel_rfl) (by kernel_rfl) rfl rfl hC ?_
    refine Q.pickT rfl rfl ?_
    refine WQ.done ?_
    refine WA.take (fuel := 21) 19 rfl (by kernel_rfl) (by kernel_rfl) (by kernel_rfl) (by kernel_rfl) rfl rfl hC ?_
    refine Q.moveT rfl ?_
    refine WQ.done ?_
    refine WA.take (fuel := 20) 20 rfl (by kernel_rfl) (by kernel_rfl) (by kernel_rfl) (by kernel_rfl) rfl rfl hC ?_
    refine Q.loadBA (i := 3) rfl Try.underlying24 rfl ti24 rfl rfl rfl rfl ?_
    refine WQ.done ?_
    refine WA.take (fuel := 19) 21 rfl (by kernel_rfl) (by kernel_rfl) (by kernel_rfl) (by kernel_rfl) rfl rfl hC ?_
    refine Q.loadBA (i := 2) rfl Try.underlying24 rfl ti24 rfl rfl rfl rfl ?_
    refine WQ.done ?_
    refine WA.take (fuel := 18) 23 rfl (by kernel_rfl) (by kernel_rfl) (by kernel_rfl) (by kernel_rfl) rfl rfl hC ?_
    refine Q.loadBA (i := 3) rfl Try.underlying24 rfl ti24 rfl rfl rfl rfl ?_
    refine WQ.done ?_
    refine WA.take (fuel := 17) 25 rfl (by kernel_rfl) (by kernel_rfl) (by kernel_rfl) (by kernel_rfl) rfl rfl hC ?_
    refine Q.loadBA (i := 2) rfl Try.underlying24 rfl ti24 rfl rfl rfl rfl ?_
    refine WQ.done ?_
    refine WA.one (fuel := 16) 22 rfl (by kernel_rfl) rfl ?_
    refine S.call ent17 rfl (w_cmp hS57 (by exact hal) (by exact hbl)) rfl ?_
    rintro _ w62 ⟨rfl, hS62⟩
    clear hS57
    refine WS.done ⟨fun _ => ((((((hS62.weak hR56).weak hR54).weak hR52).weak hR46).weak hR45).weak hR43), ?_⟩
    replace hC := ((((((hS62.weak hR56).weak hR54).weak hR52).weak hR46).weak hR45).weak hR43)
    refine WA.one (fuel := 15) 24 rfl (by kernel_rfl) rfl ?_
    refine S.call ent13 rfl (l2_num hS62 (by exact ha) (by exact hal)) rfl ?_
    rintro v64 w64 ⟨R64, hR64, hN64, hS64⟩
    clear hS62
    have hM64 := hN64
    obtain ⟨ng64, s64, ds64, rfl, hro64, hd64, hcn64, hnz64, hz64⟩ := hN64
    obtain ⟨aa64, cc64, rfl, hll64⟩ := hro64.len
    replace hro34 := hro34.mono hR64
    replace hro43 := hro43.mono hR64
    replace hro45 := hro45.mono hR64
    replace hro46 := hro46.mono hR64
    replace hro52 := hro52.mono hR64
    replace hro54 := hro54.mono hR64
    replace hro55 := hro55.mono hR64
    replace hro56 := hro56.mono hR64
    refine WS.done ⟨fun _ => (((((((hS64.weak hR64).weak hR56).weak hR54).weak hR52).weak hR46).weak hR45).weak hR43), ?_⟩
    replace hC := (((((((hS64.weak hR64).weak hR56).weak hR54).weak hR52).weak hR46).weak hR45).weak hR43)
    refine WA.one (fuel := 14) 26 rfl (by kernel_rfl) rfl ?_
    refine S.call ent13 rfl (l2_num hS64 (by exact hb) (by exact hbl)) rfl ?_
    rintro v66 w66 ⟨R66, hR66, hN66, hS66⟩
    clear hS64
    have hM66 := hN66
    obtain ⟨ng66, s66, ds66, rfl, hro66, hd66, hcn66, hnz66, hz66⟩ := hN66
    obtain ⟨aa66, cc66, rfl, hll66⟩ := hro66.len
    replace hro34 := hro34.mono hR66
    replace hro43 := hro43.mono hR66
    replace hro45 := hro45.mono hR66
    replace hro46 := hro46.mono hR66
    replace hro52 := hro52.mono hR66
    replace hro54 := hro54.mono hR66
    replace hro55 := hro55.mono hR66
    replace hro56 := hro56.mono hR66
    replace hro64 := hro64.mono hR66
    refine WS.done ⟨fun _ => ((((((((hS66.weak hR66).weak hR64).weak hR56).weak hR54).weak hR52).weak hR46).weak hR45).weak hR43), ?_⟩
    replace hC := ((((((((hS66.weak hR66).weak hR64).weak hR56).weak hR54).weak hR52).weak hR46).weak hR45).weak hR43)
    refine WA.one (fuel := 13) 27 rfl (by kernel_rfl) rfl ?_
    refine S.call ent18 rfl (r_cmp hS66 (by exact hM64.mono hR66) (by exact hM66) (by exact hbA) (by exact hbB)) rfl ?_
    rintro _ w67 ⟨rfl, hS67⟩
    clear hS66
    refine WS.done ⟨fun _ => ((((((((hS67.weak hR66).weak hR64).weak hR56).weak hR54).weak hR52).weak hR46).weak hR45).weak hR43), ?_⟩
    replace hC := ((((((((hS67.weak hR66).weak hR64).weak hR56).weak hR54).weak hR52).weak hR46).weak hR45).weak hR43)
    refine WA.take (fuel := 12) 28 rfl (by kernel_rfl) (by kernel_rfl) (by kernel_rfl) (by kernel_rfl) rfl rfl hC ?_
    refine Q.eql rfl rfl rfl ?_
    refine Q.isTD (d := 68) rfl (by rfl) ?_
    refine WQ.done ?_
    refine WA.take (fuel := 11) 29 rfl (by kernel_rfl) (by kernel_rfl) (by kernel_rfl) (by kernel_rfl) rfl rfl hC ?_
    refine Q.pickT rfl rfl ?_
    refine WQ.done ?_
    refine WA.take (fuel := 10) 30 rfl (by kernel_rfl) (by kernel_rfl) (by kernel_rfl) (by kernel_rfl) rfl rfl hC ?_
    refine Q.moveT rfl ?_
    refine WQ.done ?_
    refine WA.take (fuel := 9) 31 rfl (by kernel_rfl) (by kernel_rfl) (by kernel_rfl) (by kernel_rfl) rfl rfl hC ?_
    refine Q.moveT rfl ?_
    refine WQ.done ?_
    refine WA.take (fuel := 8) 32 rfl (by kernel_rfl) (by kernel_rfl) (by kernel_rfl) (by kernel_rfl) rfl rfl hC ?_
    refine Q.moveT rfl ?_
    refine WQ.done ?_
    refine WA.take (fuel := 7) 33 rfl (by kernel_rfl) (by kernel_rfl) (by kernel_rfl) (by kernel_rfl) rfl rfl hC ?_
    refine Q.eql rfl rfl rfl ?_
    refine Q.isTD (d := 73) rfl (by first | exact (hx29 (by simpa using c39)).trans (hf35 (by simpa using c39)).symm | exact hy29 (by simpa using c39)) ?_
    refine WQ.done ?_
    refine WA.take (fuel := 6) 34 rfl (by kernel_rfl) (by kernel_rfl) (by kernel_rfl) (by kernel_rfl) rfl rfl hC ?_
    refine Q.pickT rfl rfl ?_
    refine WQ.done ?_
    refine WA.take (fuel := 5) 35 rfl (by kernel_rfl) (by kernel_rfl) (by kernel_rfl) (by kernel_rfl) rfl rfl hC ?_
    refine Q.moveT rfl ?_
    refine WQ.done ?_
    refine WA.take (fuel := 4) 36 rfl (by kernel_rfl) (by kernel_rfl) (by kernel_rfl) (by kernel_rfl) rfl rfl hC ?_
    refine Q.moveT rfl ?_
    refine WQ.done ?_
    refine WA.take (fuel := 3) 37 rfl (by kernel_rfl) (by kernel_rfl) (by kernel_rfl) (by kernel_rfl) rfl rfl hC ?_
    refine Q.moveT rfl ?_
    refine WQ.done ?_
    refine WA.take (fuel := 2) 38 rfl (by kernel_rfl) (by kernel_rfl) (by kernel_rfl) (by kernel_rfl) rfl rfl hC ?_
    refine Q.eqlB Try.underlying4 rfl rfl rfl ?_
    refine Q.isB (d := 78) (c := true) rfl (by simp) ?_
    refine WQ.done ?_
    refine WA.take (fuel := 1) 39 rfl (by kernel_rfl) (by kernel_rfl) (by kernel_rfl) (by kernel_rfl) rfl rfl hC ?_
    refine Q.pickT rfl rfl ?_
    refine WQ.done ?_
    refine WA.take (fuel := 0) 40 rfl (by kernel_rfl) (by kernel_rfl) (by kernel_rfl) (by kernel_rfl) rfl rfl hC ?_
    refine Q.assignT rfl ?_
    refine WQ.done ?_
    refine WA.done (by kernel_rfl) ?_
    clear hC
    refine WR.ret (ret1 rfl rfl ?_)
    first | exact ⟨rfl, hS67.drop.drop.drop.drop⟩ | exact ⟨rfl, hS67.drop.drop.drop.drop.weak (hR34.trans (hR43.trans (hR45.trans (hR46.trans (hR52.trans (hR54.trans (hR56.trans (hR64.trans hR66))))))))⟩

set_option maxRecDepth 100000 in
set_option maxHeartbeats 4000000 in
theorem law_WideSums {w : World} {R : Kn} {L : List HP}  (hS : St w R (L)) {a b : Int} {v2 : Value} {xs : List Int} (ha : fits a) (hb : fits b) (h2 : Ro R (encI .i64) 1 v2 xs) (hf : ∀ x ∈ xs, fits x) (hm : xs.length ≤ 140737488355328) :
    Fn Try.prog 4 #[.int .i64 a, .int .i64 b, v2] w (fun v w' => v = .bool true ∧ St w' R L) := by
  obtain ⟨a2, c2, rfl, hl2⟩ := h2.len
  have hah := id ha
  have hbh := id hb
  unfold fits at hah hbh
  have hsa := sum_abs hf
  obtain ⟨hp1, hp2⟩ := prod_range ha hb
  refine Fn.intro (n := 38) Try.func4 rfl rfl rfl ?_
  refine WR.seq ?_
  refine WR.region rfl ?_
  refine S.assignC rfl ?_
  refine WS.done ?_
  refine WR.seq ?_
  refine WR.seq ?_
  refine WR.region rfl ?_
  refine S.call ent8 rfl (l2_alive hS ) rfl ?_
  rintro _ w8 ⟨rfl, hS8⟩
  clear hS
  refine S.not rfl rfl ?_
  refine WS.done ?_
  refine WR.condF rfl ?_
  refine WR.skip ?_
  refine WR.seq ?_
  refine WR.seq ?_
  refine WR.region rfl ?_
  refine S.moveT rfl ?_
  refine S.lenSl Try.underlying42 rfl rfl ?_
  refine S.gtr rfl rfl rfl ?_
  refine WS.done ?_
  refine WR.condD rfl (fun c12 => ?_) (fun c12 => ?_)
  ·
    skip
    refine WR.seq ?_
    refine WR.region rfl ?_
    refine S.assignC rfl ?_
    refine WS.done ?_
    refine WR.ret (ret1 rfl rfl ?_)
    first | exact ⟨rfl, hS8⟩ | exact ⟨rfl, hS8.weak (hR14.trans (hR16.trans (hR17.trans (hR21.trans (hR32.trans hR35)))))⟩
  ·
    skip
    refine WR.skip ?_
    refine WR.seq ?_
    refine WR.region rfl ?_
    refine S.moveT rfl ?_
    refine S.call ent20 rfl (r_of hS8 (by exact ha)) rfl ?_
    rintro v14 w14 ⟨R14, hR14, hN14, hS14⟩
    clear hS8
    have hM14 := hN14
    obtain ⟨ng14, s14, ds14, rfl, hro14, hd14, hcn14, hnz14, hz14⟩ := hN14
    obtain ⟨aa14, cc14, rfl, hll14⟩ := hro14.len
    replace h2 := h2.mono hR14
    refine S.moveT rfl ?_
    refine S.call ent20 rfl (r_of hS14 (by exact hb)) rfl ?_
    rintro v16 w16 ⟨R16, hR16, hN16, hS16⟩
    clear hS14
    have hM16 := hN16
    obtain ⟨ng16, s16, ds16, rfl, hro16, hd16, hcn16, hnz16, hz16⟩ := hN16
    obtain ⟨aa16, cc16, rfl, hll16⟩ := hro16.len
    replace h2 := h2.mono hR16
    replace hro14 := hro14.mono hR16
    refine S.call ent19 rfl (r_mul hS16 (by exact hM14.mono hR16) (by exact hM16) (by exact fits_big ha) (by exact fits_big hb)) rfl ?_
    rintro v17 w17 ⟨R17, hR17, hN17, hS17⟩
    clear hS16
    have hM17 := hN17
    obtain ⟨ng17, s17, ds17, rfl, hro17, hd17, hcn17, hnz17, hz17⟩ := hN17
    obtain ⟨aa17, cc17, rfl, hll17⟩ := hro17.len
    replace h2 := h2.mono hR17
    replace hro14 := hro14.mono hR17
    replace hro16 := hro16.mono hR17
    refine S.alloc hS17 ti34 rfl rfl ?_
    intro b7 w7 hS7; clear hS17
    refine S.storeB (i := 0) hS7 rfl ti34 rfl rfl rfl rfl rfl rfl rfl rfl ?_
    intro w2001 hS2001; clear hS7
    refine WS.done ?_
    refine WR.seq ?_
    refine WR.regionW (fun j => false) 21 rfl mixed hS2001 ?_
    intro w6002 hS6002; clear hS2001; have hC := hS6002
    refine WA.take (fuel := 20) 0 rfl (by kernel_rfl) (by kernel_rfl) (by kernel_rfl) (by kernel_rfl) rfl rfl hC ?_
    refine Q.moveT rfl ?_
    refine WQ.done ?_
    refine WA.take (fuel := 19) 2 rfl (by kernel_rfl) (by kernel_rfl) (by kernel_rfl) (by kernel_rfl) rfl rfl hC ?_
    refine Q.moveT rfl ?_
    refine WQ.done ?_
    refine WA.one (fuel := 18) 1 rfl (by kernel_rfl) rfl ?_
    refine S.call ent21 rfl (w_of hS6002 (by exact ha)) rfl ?_
    rintro _ w19 ⟨rfl, hS19⟩
    clear hS6002
    refine WS.done ⟨fun _ => hS19, ?_⟩
    replace hC := hS19
    refine WA.one (fuel := 17) 3 rfl (by kernel_rfl) rfl ?_
    refine S.call ent20 rfl (r_of hS19 (by exact ha)) rfl ?_
    rintro v21 w21 ⟨R21, hR21, hN21, hS21⟩
    clear hS19
    have hM21 := hN21
    obtain ⟨ng21, s21, ds21, rfl, hro21, hd21, hcn21, hnz21, hz21⟩ := hN21
    obtain ⟨aa21, cc21, rfl, hll21⟩ := hro21.len
    replace h2 := h2.mono hR21
    replace hro14 := hro14.mono hR21
    replace hro16 := hro16.mono hR21
    replace hro17 := hro17.mono hR21
    refine WS.done ⟨fun _ => (hS21.weak hR21), ?_⟩
    replace hC := (hS21.weak hR21)
    refine WA.one (fuel := 16) 4 rfl (by kernel_rfl) rfl ?_
    refine S.call ent14 rfl (l2_same hS21 (by exact hM21) (by omega) (by exact .inl ⟨fits_wfit ha, rfl, rfl, rfl⟩)) rfl ?_
    rintro _ w22 ⟨rfl, hS22⟩
    clear hS21
    refine WS.done ⟨fun _ => (hS22.weak hR21), ?_⟩
    replace hC := (hS22.weak hR21)
    refine WA.take (fuel := 15) 5 rfl (by kernel_rfl) (by kernel_rfl) (by kernel_rfl) (by kernel_rfl) rfl rfl hC ?_
    refine Q.moveT rfl ?_
    refine WQ.done ?_
    refine WA.take (fuel := 14) 6 rfl (by kernel_rfl) (by kernel_rfl) (by kernel_rfl) (by kernel_rfl) rfl rfl hC ?_
    refine Q.moveT rfl ?_
    refine WQ.done ?_
    refine WA.take (fuel := 13) 7 rfl (by kernel_rfl) (by kernel_rfl) (by kernel_rfl) (by kernel_rfl) rfl rfl hC ?_
    refine Q.moveT rfl ?_
    refine WQ.done ?_
    refine WA.take (fuel := 12) 9 rfl (by kernel_rfl) (by kernel_rfl) (by kernel_rfl) (by kernel_rfl) rfl rfl hC ?_
    refine Q.loadBA (i := 0) rfl Try.underlying34 rfl ti34 rfl rfl rfl rfl ?_
    refine WQ.done ?_
    refine WA.one (fuel := 11) 8 rfl (by kernel_rfl) rfl ?_
    refine S.call ent22 rfl (w_times hS22 (by exact ha) (by exact hb)) rfl ?_
    rintro _ w26 ⟨rfl, hS26⟩
    clear hS22
    refine WS.done ⟨fun _ => (hS26.weak hR21), ?_⟩
    replace hC := (hS26.weak hR21)
    refine WA.one (fuel := 10) 10 rfl (by kernel_rfl) rfl ?_
    refine S.call ent14 rfl (l2_same hS26 (by exact hM17.mono hR21) (by omega) (by exact .inl ⟨times_wf ha hb, rfl, rfl, rfl⟩)) rfl ?_
    rintro _ w28 ⟨rfl, hS28⟩
    clear hS26
    refine WS.done ⟨fun _ => (hS28.weak hR21), ?_⟩
    replace hC := (hS28.weak hR21)
    refine WA.take (fuel := 9) 11 rfl (by kernel_rfl) (by kernel_rfl) (by kernel_rfl) (by kernel_rfl) rfl rfl hC ?_
    refine Q.pickT rfl rfl ?_
    refine WQ.done ?_
    refine WA.take (fuel := 8) 12 rfl (by kernel_rfl) (by kernel_rfl) (by kernel_rfl) (by kernel_rfl) rfl rfl hC ?_
    refine Q.moveT rfl ?_
    refine WQ.done ?_
    refine WA.take (fuel := 7) 13 rfl (by kernel_rfl) (by kernel_rfl) (by kernel_rfl) (by kernel_rfl) rfl rfl hC ?_
    refine Q.moveT rfl ?_
    refine WQ.done ?_
    refine WA.take (fuel := 6) 16 rfl (by kernel_rfl) (by kernel_rfl) (by kernel_rfl) (by kernel_rfl) rfl rfl hC ?_
    refine Q.moveT rfl ?_
    refine WQ.done ?_
    refine WA.one (fuel := 5) 14 rfl (by kernel_rfl) rfl ?_
    refine S.call ent24 rfl (r_copyLongs hS28 (by exact h2) (by omega)) rfl ?_
    rintro v32 w32 hS32
    clear hS28
    obtain ⟨R32, hR32, hro32, hSf32⟩ := hS32.freeze (fun _ _ => rfl)
    replace h2 := h2.mono hR32
    replace hro14 := hro14.mono hR32
    replace hro16 := hro16.mono hR32
    replace hro17 := hro17.mono hR32
    replace hro21 := hro21.mono hR32
    refine WS.done ⟨fun _ => ((hSf32.weak hR32).weak hR21), ?_⟩
    replace hC := ((hSf32.weak hR32).weak hR21)
    refine WA.one (fuel := 4) 15 rfl (by kernel_rfl) rfl ?_
    refine S.call ent23 rfl (w_sum hSf32 (by exact hro32) (by exact hf) (by omega)) rfl ?_
    rintro _ w33 ⟨rfl, hS33⟩
    clear hSf32
    refine WS.done ⟨fun _ => ((hS33.weak hR32).weak hR21), ?_⟩
    replace hC := ((hS33.weak hR32).weak hR21)
    refine WA.one (fuel := 3) 17 rfl (by kernel_rfl) rfl ?_
    refine S.call ent25 rfl (r_total hS33 (by exact h2) (by exact hf) (by omega)) rfl ?_
    rintro v35 w35 ⟨R35, hR35, hN35, hS35⟩
    clear hS33
    have hM35 := hN35
    obtain ⟨ng35, s35, ds35, rfl, hro35, hd35, hcn35, hnz35, hz35⟩ := hN35
    obtain ⟨aa35, cc35, rfl, hll35⟩ := hro35.len
    replace h2 := h2.mono hR35
    replace hro14 := hro14.mono hR35
    replace hro16 := hro16.mono hR35
    replace hro17 := hro17.mono hR35
    replace hro21 := hro21.mono hR35
    replace hro32 := hro32.mono hR35
    refine WS.done ⟨fun _ => (((hS35.weak hR35).weak hR32).weak hR21), ?_⟩
    replace hC := (((hS35.weak hR35).weak hR32).weak hR21)
    refine WA.one (fuel := 2) 18 rfl (by kernel_rfl) rfl ?_
    refine S.call ent14 rfl (l2_same hS35 (by exact hM35) (by omega) (by exact .inl ⟨by unfold wfit; omega, rfl, rfl, rfl⟩)) rfl ?_
    rintro _ w36 ⟨rfl, hS36⟩
    clear hS35
    refine WS.done ⟨fun _ => (((hS36.weak hR35).weak hR32).weak hR21), ?_⟩
    replace hC := (((hS36.weak hR35).weak hR32).weak hR21)
    refine WA.take (fuel := 1) 19 rfl (by kernel_rfl) (by kernel_rfl) (by kernel_rfl) (by kernel_rfl) rfl rfl hC ?_
    refine Q.pickT rfl rfl ?_
    refine WQ.done ?_
    refine WA.take (fuel := 0) 20 rfl (by kernel_rfl) (by kernel_rfl) (by kernel_rfl) (by kernel_rfl) rfl rfl hC ?_
    refine Q.assignT rfl ?_
    refine WQ.done ?_
    refine WA.done (by kernel_rfl) ?_
    clear hC
    refine WR.ret (ret1 rfl rfl ?_)
    first | exact ⟨rfl, hS36.drop⟩ | exact ⟨rfl, hS36.drop.weak (hR14.trans (hR16.trans (hR17.trans (hR21.trans (hR32.trans hR35)))))⟩


end Go.Proofs.Ytnfideifgegijaa.B

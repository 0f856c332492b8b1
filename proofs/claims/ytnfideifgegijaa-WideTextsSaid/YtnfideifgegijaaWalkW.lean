import Derived.Test.YtnfideifgegijaaWalkS
namespace Go.Proofs.Ytnfideifgegijaa.B
open Go.Proofs Go.RowKit
set_option linter.unusedVariables false
set_option linter.unusedSimpArgs false
set_option maxRecDepth 100000 in
set_option maxHeartbeats 4000000 in
theorem cmp_nan_i64 {w : World} {R : Kn} {L : List HP}  (hS : St w R (L)) {a : Int} :
    Fn Try.prog 57 #[.int .i64 a] w (fun v w' => v = .bool false ∧ St w' R L) := by
  refine Fn.intro (n := 6) Try.func57 rfl rfl rfl ?_
  refine WR.seq ?_
  refine WR.region rfl ?_
  refine S.assignC rfl ?_
  refine WS.done ?_
  refine WR.seq ?_
  refine WR.region rfl ?_
  refine S.moveT rfl ?_
  refine S.moveT rfl ?_
  refine S.neq rfl rfl rfl ?_
  refine S.assignT rfl ?_
  refine WS.done ?_
  refine WR.ret (ret1 rfl rfl ?_)
  exact ⟨congrArg Value.bool (decide_eq_false (fun h => h rfl)), hS⟩

set_option maxRecDepth 100000 in
set_option maxHeartbeats 4000000 in
theorem cmp_nan_u64 {w : World} {R : Kn} {L : List HP}  (hS : St w R (L)) {a : Int} :
    Fn Try.prog 58 #[.int .u64 a] w (fun v w' => v = .bool false ∧ St w' R L) := by
  refine Fn.intro (n := 6) Try.func58 rfl rfl rfl ?_
  refine WR.seq ?_
  refine WR.region rfl ?_
  refine S.assignC rfl ?_
  refine WS.done ?_
  refine WR.seq ?_
  refine WR.region rfl ?_
  refine S.moveT rfl ?_
  refine S.moveT rfl ?_
  refine S.neq rfl rfl rfl ?_
  refine S.assignT rfl ?_
  refine WS.done ?_
  refine WR.ret (ret1 rfl rfl ?_)
  exact ⟨congrArg Value.bool (decide_eq_false (fun h => h rfl)), hS⟩

set_option maxRecDepth 100000 in
set_option maxHeartbeats 4000000 in
theorem cmp_cmp_i64 {w : World} {R : Kn} {L : List HP}  (hS : St w R (L)) {a b : Int} :
    Fn Try.prog 43 #[.int .i64 a, .int .i64 b] w (fun v w' => v = .int .i64 (cmpI a b) ∧ St w' R L) := by
  have hcc := cmpI_cases a b
  refine Fn.intro (n := 20) Try.func43 rfl rfl rfl ?_
  refine WR.seq ?_
  refine WR.region rfl ?_
  refine S.assignC rfl ?_
  refine WS.done ?_
  refine WR.seq ?_
  refine WR.region rfl ?_
  refine S.moveT rfl ?_
  refine S.call ent57 rfl (cmp_nan_i64 hS ) rfl ?_
  rintro _ w8 ⟨rfl, hS8⟩
  clear hS
  refine S.assignT rfl ?_
  refine WS.done ?_
  refine WR.seq ?_
  refine WR.region rfl ?_
  refine S.moveT rfl ?_
  refine S.call ent57 rfl (cmp_nan_i64 hS8 ) rfl ?_
  rintro _ w10 ⟨rfl, hS10⟩
  clear hS8
  refine S.assignT rfl ?_
  refine WS.done ?_
  refine WR.seq ?_
  refine WR.seq ?_
  refine WR.region rfl ?_
  refine S.moveT rfl ?_
  refine WS.done ?_
  refine WR.condF rfl ?_
  refine WR.skip ?_
  refine WR.seq ?_
  refine WR.seq ?_
  refine WR.region rfl ?_
  refine S.moveT rfl ?_
  refine WS.done ?_
  refine WR.condF rfl ?_
  refine WR.skip ?_
  refine WR.seq ?_
  refine WR.seq ?_
  refine WR.region rfl ?_
  refine S.moveT rfl ?_
  refine S.moveT rfl ?_
  refine S.lss rfl rfl rfl ?_
  refine WS.done ?_
  refine WR.condD rfl (fun c16 => ?_) (fun c16 => ?_)
  ·
    skip
    refine WR.seq ?_
    refine WR.region rfl ?_
    refine S.assignC rfl ?_
    refine WS.done ?_
    refine WR.ret (ret1 rfl rfl ?_)
    exact ⟨congrArg (Value.int .i64) (by omega), hS10⟩
  ·
    skip
    refine WR.skip ?_
    refine WR.seq ?_
    refine WR.seq ?_
    refine WR.region rfl ?_
    refine S.moveT rfl ?_
    refine S.moveT rfl ?_
    refine S.gtr rfl rfl rfl ?_
    refine WS.done ?_
    refine WR.condD rfl (fun c19 => ?_) (fun c19 => ?_)
    ·
      skip
      refine WR.seq ?_
      refine WR.region rfl ?_
      refine S.assignC rfl ?_
      refine WS.done ?_
      refine WR.ret (ret1 rfl rfl ?_)
      exact ⟨congrArg (Value.int .i64) (by omega), hS10⟩
    ·
      skip
      refine WR.skip ?_
      refine WR.seq ?_
      refine WR.region rfl ?_
      refine S.assignC rfl ?_
      refine WS.done ?_
      refine WR.ret (ret1 rfl rfl ?_)
      exact ⟨congrArg (Value.int .i64) (by omega), hS10⟩

set_option maxRecDepth 100000 in
set_option maxHeartbeats 4000000 in
theorem cmp_cmp_u64 {w : World} {R : Kn} {L : List HP}  (hS : St w R (L)) {a b : Int} :
    Fn Try.prog 44 #[.int .u64 a, .int .u64 b] w (fun v w' => v = .int .i64 (cmpI a b) ∧ St w' R L) := by
  have hcc := cmpI_cases a b
  refine Fn.intro (n := 20) Try.func44 rfl rfl rfl ?_
  refine WR.seq ?_
  refine WR.region rfl ?_
  refine S.assignC rfl ?_
  refine WS.done ?_
  refine WR.seq ?_
  refine WR.region rfl ?_
  refine S.moveT rfl ?_
  refine S.call ent58 rfl (cmp_nan_u64 hS ) rfl ?_
  rintro _ w8 ⟨rfl, hS8⟩
  clear hS
  refine S.assignT rfl ?_
  refine WS.done ?_
  refine WR.seq ?_
  refine WR.region rfl ?_
  refine S.moveT rfl ?_
  refine S.call ent58 rfl (cmp_nan_u64 hS8 ) rfl ?_
  rintro _ w10 ⟨rfl, hS10⟩
  clear hS8
  refine S.assignT rfl ?_
  refine WS.done ?_
  refine WR.seq ?_
  refine WR.seq ?_
  refine WR.region rfl ?_
  refine S.moveT rfl ?_
  refine WS.done ?_
  refine WR.condF rfl ?_
  refine WR.skip ?_
  refine WR.seq ?_
  refine WR.seq ?_
  refine WR.region rfl ?_
  refine S.moveT rfl ?_
  refine WS.done ?_
  refine WR.condF rfl ?_
  refine WR.skip ?_
  refine WR.seq ?_
  refine WR.seq ?_
  refine WR.region rfl ?_
  refine S.moveT rfl ?_
  refine S.moveT rfl ?_
  refine S.lss rfl rfl rfl ?_
  refine WS.done ?_
  refine WR.condD rfl (fun c16 => ?_) (fun c16 => ?_)
  ·
    skip
    refine WR.seq ?_
    refine WR.region rfl ?_
    refine S.assignC rfl ?_
    refine WS.done ?_
    refine WR.ret (ret1 rfl rfl ?_)
    exact ⟨congrArg (Value.int .i64) (by omega), hS10⟩
  ·
    skip
    refine WR.skip ?_
    refine WR.seq ?_
    refine WR.seq ?_
    refine WR.region rfl ?_
    refine S.moveT rfl ?_
    refine S.moveT rfl ?_
    refine S.gtr rfl rfl rfl ?_
    refine WS.done ?_
    refine WR.condD rfl (fun c19 => ?_) (fun c19 => ?_)
    ·
      skip
      refine WR.seq ?_
      refine WR.region rfl ?_
      refine S.assignC rfl ?_
      refine WS.done ?_
      refine WR.ret (ret1 rfl rfl ?_)
      exact ⟨congrArg (Value.int .i64) (by omega), hS10⟩
    ·
      skip
      refine WR.skip ?_
      refine WR.seq ?_
      refine WR.region rfl ?_
      refine S.assignC rfl ?_
      refine WS.done ?_
      refine WR.ret (ret1 rfl rfl ?_)
      exact ⟨congrArg (Value.int .i64) (by omega), hS10⟩

set_option maxRecDepth 100000 in
set_option maxHeartbeats 4000000 in
theorem cmp_or {w : World} {R : Kn} {L : List HP}  (hS : St w R (L)) {v0 : Value} {xs : List Int} (h0 : Ro R (encI .i64) 1 v0 xs) (hm : xs.length ≤ 1000000) :
    Fn Try.prog 42 #[v0] w (fun v w' => v = .int .i64 (orI xs) ∧ St w' R L) := by
  obtain ⟨a0, c0, rfl, hl0⟩ := h0.len
  refine Fn.intro (n := 18) Try.func42 rfl rfl rfl ?_
  refine WR.seq ?_
  refine WR.region rfl ?_
  refine S.assignC rfl ?_
  refine WS.done ?_
  refine WR.seq ?_
  refine WR.region rfl ?_
  refine S.assignC rfl ?_
  refine WS.done ?_
  refine WR.seq ?_
  refine WR.seq ?_
  refine WR.region rfl ?_
  refine S.moveT rfl ?_
  refine S.lenSl Try.underlying32 rfl rfl ?_
  refine S.moveC rfl ?_
  refine WS.done ?_
  refine WR.block ?_
  refine WR.loopE (fun rq mm rr wr => ∃ (i : Nat), mm = xs.length - i ∧ (i ≤ xs.length ∧ orI xs = orI (xs.drop i)) ∧ rr 8 = .int .i64 (i : Int) ∧ Agr [3, 6, 7] rr rq ∧ St wr R L) ⟨0, rfl, (by exact ⟨by omega, rfl⟩), rfl, ⟨rfl, rfl, rfl, trivial⟩, hS⟩ ?_
  rintro mm rr w1001 ⟨i, hm1001, ⟨hi, hor⟩, hr1001_8, hA1001, hS1001⟩
  obtain ⟨rr, rfl⟩ := agrBack hA1001
  clear hA1001
  obtain ⟨rr, rfl⟩ := back1 (r := rr) hr1001_8
  clear hr1001_8
  refine WR.seq ?_
  refine WR.region rfl ?_
  refine S.lss rfl rfl rfl ?_
  refine WS.done ?_
  refine WR.seq ?_
  refine WR.condD rfl (fun c9 => ?_) (fun c9 => ?_)
  ·
    skip
    refine WR.skip ?_
    refine WR.seq ?_
    refine WR.block ?_
    refine WR.seq ?_
    refine WR.region rfl ?_
    refine S.indexRo h0 Try.underlying32 ti3 rfl rfl (by omega) rfl ?_
    intro ad10 u10 hu10 hl10 hc10
    refine S.loadRo hS1001 hc10 rfl Try.underlying3 rfl rfl rfl ?_
    refine S.assignT rfl ?_
    refine WS.done ?_
    refine WR.seq ?_
    refine WR.region rfl ?_
    refine S.moveT rfl ?_
    refine S.moveT rfl ?_
    refine S.neq rfl rfl rfl ?_
    refine WS.done ?_
    refine WR.condD rfl (fun c14 => ?_) (fun c14 => ?_)
    ·
      skip
      refine WR.seq ?_
      refine WR.region rfl ?_
      refine S.moveT rfl ?_
      refine S.assignT rfl ?_
      refine WS.done ?_
      refine WR.ret (ret1 rfl rfl ?_)
      exact ⟨congrArg (Value.int .i64) (by rw [hor, or_drop (getI hu10), if_pos (by omega)]), hS1001⟩
    ·
      skip
      refine WR.skip ?_
      refine WR.region rfl ?_
      first
        | refine S.addN rfl rfl rfl (by omega) ?_
        | refine S.add rfl rfl rfl ?_
      refine S.moveT rfl ?_
      refine WS.done ?_
      exact ⟨_, (by omega), ⟨i + 1, rfl, (by exact ⟨by omega, by rw [hor, or_drop (getI hu10), if_neg (by omega)]⟩), rfl, ⟨rfl, rfl, rfl, trivial⟩, hS1001⟩⟩
  ·
    skip
    refine WR.exit ?_
    refine WR.seq ?_
    refine WR.region rfl ?_
    refine S.moveT rfl ?_
    refine S.assignT rfl ?_
    refine WS.done ?_
    refine WR.ret (ret1 rfl rfl ?_)
    exact ⟨congrArg (Value.int .i64) (by rw [hor, List.drop_eq_nil_of_le (by omega)]; rfl), hS1001⟩

set_option maxRecDepth 100000 in
set_option maxHeartbeats 4000000 in
theorem w_of {w : World} {R : Kn} {L : List HP}  (hS : St w R (L)) {a : Int} (ha : fits a) :
    Fn Try.prog 21 #[.int .i64 a] w (fun v w' => v = .agg #[.int .i64 (wh (a)), .int .u64 (wl (a))] ∧ St w' R L) := by
  have hd := w_def a
  unfold fits at ha
  refine Fn.intro (n := 8) Try.func21 rfl rfl rfl ?_
  refine WR.seq ?_
  refine WR.region rfl ?_
  refine S.alloc hS ti24 rfl rfl ?_
  intro b2 w2 hS2; clear hS
  refine WS.done ?_
  refine WR.seq ?_
  refine WR.region rfl ?_
  refine S.moveT rfl ?_
  refine S.shrC (q := 9223372036854775808) rfl rfl rfl (by decide) rfl rfl ?_
  refine S.moveT rfl ?_
  refine S.conv Try.underlying2 Try.underlying22 rfl rfl ?_
  refine S.as (d := 6) rfl (congrArg (Value.int .u64) (wrap_u64m _)) ?_
  refine S.buildStruct [.int _ _, .int _ _] [(0, 1), (1, 1)] Try.underlying24 ti24 rfl (by kernel_rfl) rfl rfl rfl rfl rfl rfl ?_
  refine S.storeB (i := 0) hS2 rfl ti24 rfl rfl rfl rfl rfl rfl rfl rfl ?_
  intro w2001 hS2001; clear hS2
  refine WS.done ?_
  refine WR.ret (retC rfl rfl (run_loadBA (i := 0) hS2001 rfl Try.underlying24 rfl ti24 rfl rfl) ?_)
  exact ⟨tupw (by omega) (by omega), hS2001.drop⟩

set_option maxRecDepth 100000 in
set_option maxHeartbeats 4000000 in
theorem w_around {w : World} {R : Kn} {L : List HP}  (hS : St w R (L)) {ah al bh bl c : Int} (ha : fits ah) (hal : (0 ≤ al ∧ al < 18446744073709551616)) (hb : fits bh) (hbl : (0 ≤ bl ∧ bl < 18446744073709551616)) (hc : 0 ≤ c ∧ c ≤ 1) :
    Fn Try.prog 48 #[.agg #[.int .i64 (ah), .int .u64 (al)], .agg #[.int .i64 (bh), .int .u64 (bl)], .int .u64 c] w (fun v w' => v = .agg #[.int .i64 (wh ((ah * 18446744073709551616 + al) + (bh * 18446744073709551616 + bl) + c)), .int .u64 (wl ((ah * 18446744073709551616 + al) + (bh * 18446744073709551616 + bl) + c))] ∧ St w' R L) := by
  have hah := id ha
  unfold fits at hah
  have hbh := id hb
  unfold fits at hbh
  refine Fn.intro (n := 28) Try.func48 rfl rfl rfl ?_
  refine WR.seq ?_
  refine WR.region rfl ?_
  refine S.box hS rfl rfl rfl ?_
  intro b3 w3 hS3; clear hS
  refine S.box hS3 rfl rfl rfl ?_
  intro b4 w4 hS4; clear hS3
  refine S.alloc hS4 ti24 rfl rfl ?_
  intro b6 w6 hS6; clear hS4
  refine WS.done ?_
  refine WR.seq ?_
  refine WR.region rfl ?_
  refine S.fieldB Try.underlying24 rfl ti22 rfl rfl rfl rfl ?_
  refine S.loadB (i := 2) hS6 rfl Try.underlying22 rfl rfl rfl rfl ?_
  refine S.fieldB Try.underlying24 rfl ti22 rfl rfl rfl rfl ?_
  refine S.loadB (i := 1) hS6 rfl Try.underlying22 rfl rfl rfl rfl ?_
  refine S.moveT rfl ?_
  refine S.callX rfl (x_add64 (by omega) (by omega) (by omega)) rfl ?_
  refine S.moveT rfl ?_
  refine S.extract rfl rfl rfl ?_
  refine S.extract rfl rfl rfl ?_
  refine S.assignT rfl ?_
  refine S.assignT rfl ?_
  refine WS.done ?_
  refine WR.seq ?_
  refine WR.region rfl ?_
  refine S.fieldB Try.underlying24 rfl ti2 rfl rfl rfl rfl ?_
  refine S.loadB (i := 2) hS6 rfl Try.underlying2 rfl rfl rfl rfl ?_
  refine S.fieldB Try.underlying24 rfl ti2 rfl rfl rfl rfl ?_
  refine S.loadB (i := 1) hS6 rfl Try.underlying2 rfl rfl rfl rfl ?_
  refine S.add rfl rfl rfl ?_
  refine S.moveT rfl ?_
  first
    | refine S.convN Try.underlying22 Try.underlying2 rfl rfl (wrap_i64 (by omega) (by omega)) ?_
    | refine S.conv Try.underlying22 Try.underlying2 rfl rfl ?_
  refine S.add rfl rfl rfl ?_
  refine S.moveT rfl ?_
  refine S.buildStruct [.int _ _, .int _ _] [(0, 1), (1, 1)] Try.underlying24 ti24 rfl (by kernel_rfl) rfl rfl rfl rfl rfl rfl ?_
  refine S.storeB (i := 0) hS6 rfl ti24 rfl rfl rfl rfl rfl rfl rfl rfl ?_
  intro w2001 hS2001; clear hS6
  refine WS.done ?_
  refine WR.ret (retC rfl rfl (run_loadBA (i := 0) hS2001 rfl Try.underlying24 rfl ti24 rfl rfl) ?_)
  exact ⟨tupw (around_hi hal hbl hc _ _ rfl rfl) (around_lo), hS2001.drop.drop.drop⟩

set_option maxRecDepth 100000 in
set_option maxHeartbeats 4000000 in
theorem w_turned {w : World} {R : Kn} {L : List HP}  (hS : St w R (L)) {ah al : Int} (ha : fits ah) (hal : (0 ≤ al ∧ al < 18446744073709551616)) :
    Fn Try.prog 36 #[.agg #[.int .i64 (ah), .int .u64 (al)]] w (fun v w' => v = .agg #[.int .i64 (-1 - ah), .int .u64 (18446744073709551615 - al)] ∧ St w' R L) := by
  refine Fn.intro (n := 10) Try.func36 rfl rfl rfl ?_
  refine WR.seq ?_
  refine WR.region rfl ?_
  refine S.box hS rfl rfl rfl ?_
  intro b1 w1 hS1; clear hS
  refine S.alloc hS1 ti24 rfl rfl ?_
  intro b2 w2 hS2; clear hS1
  refine WS.done ?_
  refine WR.seq ?_
  refine WR.region rfl ?_
  refine S.fieldB Try.underlying24 rfl ti2 rfl rfl rfl rfl ?_
  refine S.loadB (i := 1) hS2 rfl Try.underlying2 rfl rfl rfl rfl ?_
  refine S.compl rfl rfl ?_
  refine S.fieldB Try.underlying24 rfl ti22 rfl rfl rfl rfl ?_
  refine S.loadB (i := 1) hS2 rfl Try.underlying22 rfl rfl rfl rfl ?_
  refine S.compl rfl rfl ?_
  refine S.buildStruct [.int _ _, .int _ _] [(0, 1), (1, 1)] Try.underlying24 ti24 rfl (by kernel_rfl) rfl rfl rfl rfl rfl rfl ?_
  refine S.storeB (i := 0) hS2 rfl ti24 rfl rfl rfl rfl rfl rfl rfl rfl ?_
  intro w2001 hS2001; clear hS2
  refine WS.done ?_
  refine WR.ret (retC rfl rfl (run_loadBA (i := 0) hS2001 rfl Try.underlying24 rfl ti24 rfl rfl) ?_)
  exact ⟨tupw (compl_i64 ha) (compl_u64 hal), hS2001.drop.drop⟩

set_option maxRecDepth 100000 in
set_option maxHeartbeats 4000000 in
theorem w_plus {w : World} {R : Kn} {L : List HP}  (hS : St w R (L)) {ah al bh bl c : Int} (ha : fits ah) (hal : (0 ≤ al ∧ al < 18446744073709551616)) (hb : fits bh) (hbl : (0 ≤ bl ∧ bl < 18446744073709551616)) (hc : 0 ≤ c ∧ c ≤ 1) :
    Fn Try.prog 35 #[.agg #[.int .i64 (ah), .int .u64 (al)], .agg #[.int .i64 (bh), .int .u64 (bl)], .int .u64 c] w (fun v w' => ∃ h l e, v = .tuple #[.agg #[.int .i64 (h), .int .u64 (l)], .int .i64 e] ∧ ((wfit ((ah * 18446744073709551616 + al) + (bh * 18446744073709551616 + bl) + c) ∧ h = wh ((ah * 18446744073709551616 + al) + (bh * 18446744073709551616 + bl) + c) ∧ l = wl ((ah * 18446744073709551616 + al) + (bh * 18446744073709551616 + bl) + c) ∧ e = 0) ∨ (¬ wfit ((ah * 18446744073709551616 + al) + (bh * 18446744073709551616 + bl) + c) ∧ h = 0 ∧ l = 0 ∧ e = 12)) ∧ St w' R L) := by
  have hah := id ha
  unfold fits at hah
  have hbh := id hb
  unfold fits at hbh
  have hd := w_def ((ah * 18446744073709551616 + al) + (bh * 18446744073709551616 + bl) + c)
  refine Fn.intro (n := 31) Try.func35 rfl rfl rfl ?_
  refine WR.seq ?_
  refine WR.region rfl ?_
  refine S.box hS rfl rfl rfl ?_
  intro b3 w3 hS3; clear hS
  refine S.box hS3 rfl rfl rfl ?_
  intro b4 w4 hS4; clear hS3
  refine S.alloc hS4 ti24 rfl rfl ?_
  intro b6 w6 hS6; clear hS4
  refine S.assignC rfl ?_
  refine WS.done ?_
  refine WR.seq ?_
  refine WR.region rfl ?_
  refine S.loadBA (i := 2) hS6 rfl Try.underlying24 rfl ti24 rfl rfl rfl rfl ?_
  refine S.loadBA (i := 1) hS6 rfl Try.underlying24 rfl ti24 rfl rfl rfl rfl ?_
  refine S.moveT rfl ?_
  refine S.call ent48 rfl (w_around hS6 (by exact ha) (by exact hal) (by exact hb) (by exact hbl) (by exact hc)) rfl ?_
  rintro _ w12 ⟨rfl, hS12⟩
  clear hS6
  refine S.alloc hS12 ti24 rfl rfl ?_
  intro b8 w8 hS8; clear hS12
  refine S.storeB (i := 0) hS8 rfl ti24 rfl rfl rfl rfl rfl rfl rfl rfl ?_
  intro w2001 hS2001; clear hS8
  refine WS.done ?_
  refine WR.seq ?_
  refine WR.seq ?_
  refine WR.region rfl ?_
  refine S.fieldB Try.underlying24 rfl ti2 rfl rfl rfl rfl ?_
  refine S.loadB (i := 3) hS2001 rfl Try.underlying2 rfl rfl rfl rfl ?_
  refine S.lss rfl rfl rfl ?_
  refine S.fieldB Try.underlying24 rfl ti2 rfl rfl rfl rfl ?_
  refine S.loadB (i := 2) hS2001 rfl Try.underlying2 rfl rfl rfl rfl ?_
  refine S.lss rfl rfl rfl ?_
  refine S.eqlB Try.underlying4 rfl rfl rfl ?_
  refine S.moveT rfl ?_
  refine S.splitB (d := 20) rfl (fun c20 => ?_) (fun c20 => ?_)
  ·
    skip
    refine S.fieldB Try.underlying24 rfl ti2 rfl rfl rfl rfl ?_
    refine S.loadB (i := 0) hS2001 rfl Try.underlying2 rfl rfl rfl rfl ?_
    refine S.lss rfl rfl rfl ?_
    refine S.fieldB Try.underlying24 rfl ti2 rfl rfl rfl rfl ?_
    refine S.loadB (i := 3) hS2001 rfl Try.underlying2 rfl rfl rfl rfl ?_
    refine S.lss rfl rfl rfl ?_
    refine S.neqB Try.underlying4 rfl rfl rfl ?_
    refine S.pickT rfl rfl ?_
    refine WS.done ?_
    refine WR.cond rfl (fun c28 => ?_) (fun c28 => ?_)
    ·
      skip
      refine WR.seq ?_
      refine WR.region rfl ?_
      refine S.buildZero ti24 rfl (by kernel_rfl) rfl ?_
      refine S.storeB (i := 1) hS2001 rfl ti24 rfl rfl rfl rfl rfl rfl rfl rfl ?_
      intro w2002 hS2002; clear hS2001
      refine S.assignC rfl ?_
      refine WS.done ?_
      refine WR.ret (retC1 rfl rfl (run_loadBA (i := 1) hS2002 rfl Try.underlying24 rfl ti24 rfl rfl) rfl ?_)
      first | exact ⟨_, _, _, rfl, .inl ⟨plus_in (s := (ah * 18446744073709551616 + al) + (bh * 18446744073709551616 + bl) + c) hah hbh hal hbl hc rfl hd.1 (by first | exact .inl (by simpa using c20) | exact .inr (by simpa using c28)), rfl, rfl, rfl⟩, hS2002.drop.drop.drop.drop⟩ | exact ⟨_, _, _, rfl, .inr ⟨plus_out (s := (ah * 18446744073709551616 + al) + (bh * 18446744073709551616 + bl) + c) hah hbh hal hbl hc rfl hd.1 (by simpa using c20) (by simpa using c28), rfl, rfl, rfl⟩, hS2002.drop.drop.drop.drop⟩
    ·
      skip
      refine WR.skip ?_
      refine WR.seq ?_
      refine WR.region rfl ?_
      refine S.loadBA (i := 0) hS2001 rfl Try.underlying24 rfl ti24 rfl rfl rfl rfl ?_
      refine S.storeB (i := 1) hS2001 rfl ti24 rfl rfl rfl rfl rfl rfl rfl rfl ?_
      intro w2003 hS2003; clear hS2001
      refine S.assignC rfl ?_
      refine WS.done ?_
      refine WR.ret (retC1 rfl rfl (run_loadBA (i := 1) hS2003 rfl Try.underlying24 rfl ti24 rfl rfl) rfl ?_)
      first | exact ⟨_, _, _, rfl, .inl ⟨plus_in (s := (ah * 18446744073709551616 + al) + (bh * 18446744073709551616 + bl) + c) hah hbh hal hbl hc rfl hd.1 (by first | exact .inl (by simpa using c20) | exact .inr (by simpa using c28)), rfl, rfl, rfl⟩, hS2003.drop.drop.drop.drop⟩ | exact ⟨_, _, _, rfl, .inr ⟨plus_out (s := (ah * 18446744073709551616 + al) + (bh * 18446744073709551616 + bl) + c) hah hbh hal hbl hc rfl hd.1 (by simpa using c20) (by simpa using c28), rfl, rfl, rfl⟩, hS2003.drop.drop.drop.drop⟩
  ·
    skip
    refine S.off rfl ?_
    refine S.off rfl ?_
    refine S.off rfl ?_
    refine S.off rfl ?_
    refine S.off rfl ?_
    refine S.off rfl ?_
    refine S.off rfl ?_
    refine S.pickFC rfl rfl ?_
    refine WS.done ?_
    refine WR.condF rfl ?_
    refine WR.skip ?_
    refine WR.seq ?_
    refine WR.region rfl ?_
    refine S.loadBA (i := 0) hS2001 rfl Try.underlying24 rfl ti24 rfl rfl rfl rfl ?_
    refine S.storeB (i := 1) hS2001 rfl ti24 rfl rfl rfl rfl rfl rfl rfl rfl ?_
    intro w2004 hS2004; clear hS2001
    refine S.assignC rfl ?_
    refine WS.done ?_
    refine WR.ret (retC1 rfl rfl (run_loadBA (i := 1) hS2004 rfl Try.underlying24 rfl ti24 rfl rfl) rfl ?_)
    first | exact ⟨_, _, _, rfl, .inl ⟨plus_in (s := (ah * 18446744073709551616 + al) + (bh * 18446744073709551616 + bl) + c) hah hbh hal hbl hc rfl hd.1 (by first | exact .inl (by simpa using c20) | exact .inr (by simpa using c28)), rfl, rfl, rfl⟩, hS2004.drop.drop.drop.drop⟩ | exact ⟨_, _, _, rfl, .inr ⟨plus_out (s := (ah * 18446744073709551616 + al) + (bh * 18446744073709551616 + bl) + c) hah hbh hal hbl hc rfl hd.1 (by simpa using c20) (by simpa using c28), rfl, rfl, rfl⟩, hS2004.drop.drop.drop.drop⟩

set_option maxRecDepth 100000 in
set_option maxHeartbeats 4000000 in
theorem w_add {w : World} {R : Kn} {L : List HP}  (hS : St w R (L)) {ah al bh bl : Int} (ha : fits ah) (hal : (0 ≤ al ∧ al < 18446744073709551616)) (hb : fits bh) (hbl : (0 ≤ bl ∧ bl < 18446744073709551616)) :
    Fn Try.prog 9 #[.agg #[.int .i64 (ah), .int .u64 (al)], .agg #[.int .i64 (bh), .int .u64 (bl)]] w (fun v w' => ∃ h l e, v = .tuple #[.agg #[.int .i64 (h), .int .u64 (l)], .int .i64 e] ∧ ((wfit ((ah * 18446744073709551616 + al) + (bh * 18446744073709551616 + bl)) ∧ h = wh ((ah * 18446744073709551616 + al) + (bh * 18446744073709551616 + bl)) ∧ l = wl ((ah * 18446744073709551616 + al) + (bh * 18446744073709551616 + bl)) ∧ e = 0) ∨ (¬ wfit ((ah * 18446744073709551616 + al) + (bh * 18446744073709551616 + bl)) ∧ h = 0 ∧ l = 0 ∧ e = 12)) ∧ St w' R L) := by
  refine Fn.intro (n := 11) Try.func9 rfl rfl rfl ?_
  refine WR.seq ?_
  refine WR.region rfl ?_
  refine S.box hS rfl rfl rfl ?_
  intro b2 w2 hS2; clear hS
  refine S.box hS2 rfl rfl rfl ?_
  intro b3 w3 hS3; clear hS2
  refine S.alloc hS3 ti24 rfl rfl ?_
  intro b4 w4 hS4; clear hS3
  refine S.assignC rfl ?_
  refine WS.done ?_
  refine WR.seq ?_
  refine WR.region rfl ?_
  refine S.loadBA (i := 2) hS4 rfl Try.underlying24 rfl ti24 rfl rfl rfl rfl ?_
  refine S.loadBA (i := 1) hS4 rfl Try.underlying24 rfl ti24 rfl rfl rfl rfl ?_
  refine S.call ent35 rfl (w_plus hS4 (by exact ha) (by exact hal) (by exact hb) (by exact hbl) (by decide)) rfl ?_
  rintro _ w8 ⟨h8, l8, e8, rfl, hW8, hS8⟩
  clear hS4
  refine S.extract rfl rfl rfl ?_
  refine S.extract rfl rfl rfl ?_
  refine S.storeB (i := 0) hS8 rfl ti24 rfl rfl rfl rfl rfl rfl rfl rfl ?_
  intro w2001 hS2001; clear hS8
  refine S.assignT rfl ?_
  refine WS.done ?_
  refine WR.ret (retC1 rfl rfl (run_loadBA (i := 0) hS2001 rfl Try.underlying24 rfl ti24 rfl rfl) rfl ?_)
  rw [Int.add_zero] at hW8
  exact ⟨_, _, _, rfl, hW8, hS2001.drop.drop.drop⟩

set_option maxRecDepth 100000 in
set_option maxHeartbeats 4000000 in
theorem w_sub {w : World} {R : Kn} {L : List HP}  (hS : St w R (L)) {ah al bh bl : Int} (ha : fits ah) (hal : (0 ≤ al ∧ al < 18446744073709551616)) (hb : fits bh) (hbl : (0 ≤ bl ∧ bl < 18446744073709551616)) :
    Fn Try.prog 10 #[.agg #[.int .i64 (ah), .int .u64 (al)], .agg #[.int .i64 (bh), .int .u64 (bl)]] w (fun v w' => ∃ h l e, v = .tuple #[.agg #[.int .i64 (h), .int .u64 (l)], .int .i64 e] ∧ ((wfit ((ah * 18446744073709551616 + al) - (bh * 18446744073709551616 + bl)) ∧ h = wh ((ah * 18446744073709551616 + al) - (bh * 18446744073709551616 + bl)) ∧ l = wl ((ah * 18446744073709551616 + al) - (bh * 18446744073709551616 + bl)) ∧ e = 0) ∨ (¬ wfit ((ah * 18446744073709551616 + al) - (bh * 18446744073709551616 + bl)) ∧ h = 0 ∧ l = 0 ∧ e = 12)) ∧ St w' R L) := by
  have hbh := id hb
  unfold fits at hbh
  refine Fn.intro (n := 12) Try.func10 rfl rfl rfl ?_
  refine WR.seq ?_
  refine WR.region rfl ?_
  refine S.box hS rfl rfl rfl ?_
  intro b2 w2 hS2; clear hS
  refine S.box hS2 rfl rfl rfl ?_
  intro b3 w3 hS3; clear hS2
  refine S.alloc hS3 ti24 rfl rfl ?_
  intro b4 w4 hS4; clear hS3
  refine S.assignC rfl ?_
  refine WS.done ?_
  refine WR.seq ?_
  refine WR.regionW (fun j => Nat.beq j 6 || Nat.beq j 7) 8 rfl mixed hS4 ?_
  intro w6001 hS6001; clear hS4; have hC := hS6001
  refine WA.take (fuel := 7) 0 rfl (by kernel_rfl) (by kernel_rfl) (by kernel_rfl) (by kernel_rfl) rfl rfl hC ?_
  refine Q.loadBA (i := 2) rfl Try.underlying24 rfl ti24 rfl rfl rfl rfl ?_
  refine WQ.done ?_
  refine WA.take (fuel := 6) 1 rfl (by kernel_rfl) (by kernel_rfl) (by kernel_rfl) (by kernel_rfl) rfl rfl hC ?_
  refine Q.loadBA (i := 1) rfl Try.underlying24 rfl ti24 rfl rfl rfl rfl ?_
  refine WQ.done ?_
  refine WA.one (fuel := 5) 2 rfl (by kernel_rfl) rfl ?_
  refine S.call ent36 rfl (w_turned hS6001 (by exact hb) (by exact hbl)) rfl ?_
  rintro _ w8 ⟨rfl, hS8⟩
  clear hS6001
  refine WS.done ⟨fun _ => hS8, ?_⟩
  replace hC := hS8
  refine WA.one (fuel := 4) 3 rfl (by kernel_rfl) rfl ?_
  refine S.call ent35 rfl (w_plus hS8 (by exact ha) (by exact hal) (by unfold fits; omega) (by omega) (by decide)) rfl ?_
  rintro _ w9 ⟨h9, l9, e9, rfl, hW9, hS9⟩
  clear hS8
  refine WS.done ⟨fun _ => hS9, ?_⟩
  replace hC := hS9
  refine WA.take (fuel := 3) 4 rfl (by kernel_rfl) (by kernel_rfl) (by kernel_rfl) (by kernel_rfl) rfl rfl hC ?_
  refine Q.extract rfl rfl rfl ?_
  refine WQ.done ?_
  refine WA.take (fuel := 2) 5 rfl (by kernel_rfl) (by kernel_rfl) (by kernel_rfl) (by kernel_rfl) rfl rfl hC ?_
  refine Q.extract rfl rfl rfl ?_
  refine WQ.done ?_
  refine WA.one (fuel := 1) 6 rfl (by kernel_rfl) rfl ?_
  refine S.storeB (i := 0) hS9 rfl ti24 rfl rfl rfl rfl rfl rfl rfl rfl ?_
  intro w2002 hS2002; clear hS9
  refine WS.done ⟨fun h => absurd h (by decide), ?_⟩
  refine WA.one (fuel := 0) 7 rfl (by kernel_rfl) rfl ?_
  refine S.assignT rfl ?_
  refine WS.done ⟨fun h => absurd h (by decide), ?_⟩
  refine WA.done (by kernel_rfl) ?_
  clear hC
  refine WR.ret (retC1 rfl rfl (run_loadBA (i := 0) hS2002 rfl Try.underlying24 rfl ti24 rfl rfl) rfl ?_)
  rw [show (ah * 18446744073709551616 + al) + ((-1 - bh) * 18446744073709551616 + (18446744073709551615 - bl)) + 1 = (ah * 18446744073709551616 + al) - (bh * 18446744073709551616 + bl) by omega] at hW9
  exact ⟨_, _, _, rfl, hW9, hS2002.drop.drop.drop⟩

set_option maxRecDepth 100000 in
set_option maxHeartbeats 4000000 in
theorem w_cmp {w : World} {R : Kn} {L : List HP}  (hS : St w R (L)) {ah al bh bl : Int} (hal : (0 ≤ al ∧ al < 18446744073709551616)) (hbl : (0 ≤ bl ∧ bl < 18446744073709551616)) :
    Fn Try.prog 17 #[.agg #[.int .i64 (ah), .int .u64 (al)], .agg #[.int .i64 (bh), .int .u64 (bl)]] w (fun v w' => v = .int .i64 (cmpI (ah * 18446744073709551616 + al) (bh * 18446744073709551616 + bl)) ∧ St w' R L) := by
  have hc1 := cmpI_cases ah bh
  have hc2 := cmpI_cases al bl
  have hc3 := cmpI_cases (ah * 18446744073709551616 + al) (bh * 18446744073709551616 + bl)
  have hor := or_two (cmpI ah bh) (cmpI al bl)
  refine Fn.intro (n := 17) Try.func17 rfl rfl rfl ?_
  refine WR.seq ?_
  refine WR.region rfl ?_
  refine S.box hS rfl rfl rfl ?_
  intro b2 w2 hS2; clear hS
  refine S.box hS2 rfl rfl rfl ?_
  intro b3 w3 hS3; clear hS2
  refine S.assignC rfl ?_
  refine WS.done ?_
  refine WR.seq ?_
  refine WR.regionW (fun j => false) 13 rfl mixed hS3 ?_
  intro w6001 hS6001; clear hS3; have hC := hS6001
  refine WA.take (fuel := 12) 0 rfl (by kernel_rfl) (by kernel_rfl) (by kernel_rfl) (by kernel_rfl) rfl rfl hC ?_
  refine Q.fieldB Try.underlying24 rfl ti2 rfl rfl rfl rfl ?_
  refine WQ.done ?_
  refine WA.take (fuel := 11) 1 rfl (by kernel_rfl) (by kernel_rfl) (by kernel_rfl) (by kernel_rfl) rfl rfl hC ?_
  refine Q.loadB (i := 1) rfl Try.underlying2 rfl rfl rfl rfl ?_
  refine WQ.done ?_
  refine WA.take (fuel := 10) 2 rfl (by kernel_rfl) (by kernel_rfl) (by kernel_rfl) (by kernel_rfl) rfl rfl hC ?_
  refine Q.fieldB Try.underlying24 rfl ti2 rfl rfl rfl rfl ?_
  refine WQ.done ?_
  refine WA.take (fuel := 9) 3 rfl (by kernel_rfl) (by kernel_rfl) (by kernel_rfl) (by kernel_rfl) rfl rfl hC ?_
  refine Q.loadB (i := 0) rfl Try.underlying2 rfl rfl rfl rfl ?_
  refine WQ.done ?_
  refine WA.take (fuel := 8) 5 rfl (by kernel_rfl) (by kernel_rfl) (by kernel_rfl) (by kernel_rfl) rfl rfl hC ?_
  refine Q.fieldB Try.underlying24 rfl ti22 rfl rfl rfl rfl ?_
  refine WQ.done ?_
  refine WA.take (fuel := 7) 6 rfl (by kernel_rfl) (by kernel_rfl) (by kernel_rfl) (by kernel_rfl) rfl rfl hC ?_
  refine Q.loadB (i := 1) rfl Try.underlying22 rfl rfl rfl rfl ?_
  refine WQ.done ?_
  refine WA.take (fuel := 6) 7 rfl (by kernel_rfl) (by kernel_rfl) (by kernel_rfl) (by kernel_rfl) rfl rfl hC ?_
  refine Q.fieldB Try.underlying24 rfl ti22 rfl rfl rfl rfl ?_
  refine WQ.done ?_
  refine WA.take (fuel := 5) 8 rfl (by kernel_rfl) (by kernel_rfl) (by kernel_rfl) (by kernel_rfl) rfl rfl hC ?_
  refine Q.loadB (i := 0) rfl Try.underlying22 rfl rfl rfl rfl ?_
  refine WQ.done ?_
  refine WA.one (fuel := 4) 4 rfl (by kernel_rfl) rfl ?_
  refine S.call ent43 rfl (cmp_cmp_i64 hS6001 ) rfl ?_
  rintro _ w9 ⟨rfl, hS9⟩
  clear hS6001
  refine WS.done ⟨fun _ => hS9, ?_⟩
  replace hC := hS9
  refine WA.one (fuel := 3) 9 rfl (by kernel_rfl) rfl ?_
  refine S.call ent44 rfl (cmp_cmp_u64 hS9 ) rfl ?_
  rintro _ w14 ⟨rfl, hS14⟩
  clear hS9
  refine WS.done ⟨fun _ => hS14, ?_⟩
  replace hC := hS14
  refine WA.one (fuel := 2) 10 rfl (by kernel_rfl) rfl ?_
  first
    | refine S.buildRow (vs := [.int _ _, .int _ _]) hS14 Try.underlying32 ti3 rfl rfl rfl rfl rfl rfl rfl ?_
    | refine S.buildRow hS14 Try.underlying32 ti3 rfl rfl rfl rfl rfl rfl rfl ?_
  intro b15 w15 hS15; clear hS14
  obtain ⟨R15, hR15, hro15, hSf15⟩ := hS15.keepRow (enc := encI .i64) (n := 1) [cmpI ah bh, cmpI al bl] rfl (fun _ _ => rfl)
  refine WS.done ⟨fun _ => (hSf15.weak hR15), ?_⟩
  replace hC := (hSf15.weak hR15)
  refine WA.one (fuel := 1) 11 rfl (by kernel_rfl) rfl ?_
  refine S.call ent42 rfl (cmp_or hSf15 (by exact hro15) (by simp)) rfl ?_
  rintro _ w16 ⟨rfl, hS16⟩
  clear hSf15
  refine WS.done ⟨fun _ => (hS16.weak hR15), ?_⟩
  replace hC := (hS16.weak hR15)
  refine WA.take (fuel := 0) 12 rfl (by kernel_rfl) (by kernel_rfl) (by kernel_rfl) (by kernel_rfl) rfl rfl hC ?_
  refine Q.assignT rfl ?_
  refine WQ.done ?_
  refine WA.done (by kernel_rfl) ?_
  clear hC
  refine WR.ret (ret1 rfl rfl ?_)
  exact ⟨congrArg (Value.int .i64) (by omega), hS16.drop.drop.weak hR15⟩

set_option maxRecDepth 100000 in
set_option maxHeartbeats 4000000 in
theorem w_times {w : World} {R : Kn} {L : List HP}  (hS : St w R (L)) {a b : Int} (ha : fits a) (hb : fits b) :
    Fn Try.prog 22 #[.int .i64 a, .int .i64 b] w (fun v w' => v = .agg #[.int .i64 (wh (a * b)), .int .u64 (wl (a * b))] ∧ St w' R L) := by
  obtain ⟨P, hP, hPl, hPh⟩ := times_u ha hb
  have hah := id ha
  have hbh := id hb
  unfold fits at hah hbh
  refine Fn.intro (n := 31) Try.func22 rfl rfl rfl ?_
  refine WR.seq ?_
  refine WR.region rfl ?_
  refine S.alloc hS ti24 rfl rfl ?_
  intro b4 w4 hS4; clear hS
  refine WS.done ?_
  refine WR.seq ?_
  refine WR.region rfl ?_
  refine S.moveT rfl ?_
  refine S.conv Try.underlying2 Try.underlying22 rfl rfl ?_
  refine S.as (d := 9) rfl (congrArg (Value.int .u64) (wrap_u64m _)) ?_
  refine S.moveT rfl ?_
  refine S.conv Try.underlying2 Try.underlying22 rfl rfl ?_
  refine S.as (d := 11) rfl (congrArg (Value.int .u64) (wrap_u64m _)) ?_
  refine S.call ent47 rfl (s_mul64 hS4 (by omega) (by omega)) rfl ?_
  rintro _ w12 ⟨rfl, hS12⟩
  clear hS4
  rw [← hP]
  refine S.moveT rfl ?_
  refine S.extract rfl rfl rfl ?_
  refine S.extract rfl rfl rfl ?_
  refine S.assignT rfl ?_
  refine S.assignT rfl ?_
  refine WS.done ?_
  refine WR.seq ?_
  refine WR.seq ?_
  refine WR.region rfl ?_
  refine S.moveT rfl ?_
  refine S.lss rfl rfl rfl ?_
  refine WS.done ?_
  refine WR.condD rfl (fun c16 => ?_) (fun c16 => ?_)
  ·
    skip
    refine WR.region rfl ?_
    refine S.moveT rfl ?_
    refine S.moveT rfl ?_
    refine S.conv Try.underlying2 Try.underlying22 rfl rfl ?_
    refine S.sub rfl rfl rfl ?_
    refine S.assignT rfl ?_
    refine WS.done ?_
    refine WR.seq ?_
    refine WR.seq ?_
    refine WR.region rfl ?_
    refine S.moveT rfl ?_
    refine S.lss rfl rfl rfl ?_
    refine WS.done ?_
    refine WR.condD rfl (fun c22 => ?_) (fun c22 => ?_)
    ·
      skip
      refine WR.region rfl ?_
      refine S.moveT rfl ?_
      refine S.moveT rfl ?_
      refine S.conv Try.underlying2 Try.underlying22 rfl rfl ?_
      refine S.sub rfl rfl rfl ?_
      refine S.assignT rfl ?_
      refine WS.done ?_
      refine WR.seq ?_
      refine WR.region rfl ?_
      refine S.moveT rfl ?_
      refine S.conv Try.underlying22 Try.underlying2 rfl rfl ?_
      refine S.moveT rfl ?_
      refine S.buildStruct [.int _ _, .int _ _] [(0, 1), (1, 1)] Try.underlying24 ti24 rfl (by kernel_rfl) rfl rfl rfl rfl rfl rfl ?_
      refine S.storeB (i := 0) hS12 rfl ti24 rfl rfl rfl rfl rfl rfl rfl rfl ?_
      intro w2001 hS2001; clear hS12
      refine WS.done ?_
      refine WR.ret (retC rfl rfl (run_loadBA (i := 0) hS2001 rfl Try.underlying24 rfl ti24 rfl rfl) ?_)
      exact ⟨tupw (by rw [hPh]; (first | rw [if_pos c16] | rw [if_neg c16]); (first | rw [if_pos c22] | rw [if_neg c22]); simp only [wrap_i64m, wrap_u64m, Int.sub_zero]; (try omega)) (hPl.symm), hS2001.drop⟩
    ·
      skip
      refine WR.skip ?_
      refine WR.seq ?_
      refine WR.region rfl ?_
      refine S.moveT rfl ?_
      refine S.conv Try.underlying22 Try.underlying2 rfl rfl ?_
      refine S.moveT rfl ?_
      refine S.buildStruct [.int _ _, .int _ _] [(0, 1), (1, 1)] Try.underlying24 ti24 rfl (by kernel_rfl) rfl rfl rfl rfl rfl rfl ?_
      refine S.storeB (i := 0) hS12 rfl ti24 rfl rfl rfl rfl rfl rfl rfl rfl ?_
      intro w2002 hS2002; clear hS12
      refine WS.done ?_
      refine WR.ret (retC rfl rfl (run_loadBA (i := 0) hS2002 rfl Try.underlying24 rfl ti24 rfl rfl) ?_)
      exact ⟨tupw (by rw [hPh]; (first | rw [if_pos c16] | rw [if_neg c16]); (first | rw [if_pos c22] | rw [if_neg c22]); simp only [wrap_i64m, wrap_u64m, Int.sub_zero]; (try omega)) (hPl.symm), hS2002.drop⟩
  ·
    skip
    refine WR.skip ?_
    refine WR.seq ?_
    refine WR.seq ?_
    refine WR.region rfl ?_
    refine S.moveT rfl ?_
    refine S.lss rfl rfl rfl ?_
    refine WS.done ?_
    refine WR.condD rfl (fun c22 => ?_) (fun c22 => ?_)
    ·
      skip
      refine WR.region rfl ?_
      refine S.moveT rfl ?_
      refine S.moveT rfl ?_
      refine S.conv Try.underlying2 Try.underlying22 rfl rfl ?_
      refine S.sub rfl rfl rfl ?_
      refine S.assignT rfl ?_
      refine WS.done ?_
      refine WR.seq ?_
      refine WR.region rfl ?_
      refine S.moveT rfl ?_
      refine S.conv Try.underlying22 Try.underlying2 rfl rfl ?_
      refine S.moveT rfl ?_
      refine S.buildStruct [.int _ _, .int _ _] [(0, 1), (1, 1)] Try.underlying24 ti24 rfl (by kernel_rfl) rfl rfl rfl rfl rfl rfl ?_
      refine S.storeB (i := 0) hS12 rfl ti24 rfl rfl rfl rfl rfl rfl rfl rfl ?_
      intro w2003 hS2003; clear hS12
      refine WS.done ?_
      refine WR.ret (retC rfl rfl (run_loadBA (i := 0) hS2003 rfl Try.underlying24 rfl ti24 rfl rfl) ?_)
      exact ⟨tupw (by rw [hPh]; (first | rw [if_pos c16] | rw [if_neg c16]); (first | rw [if_pos c22] | rw [if_neg c22]); simp only [wrap_i64m, wrap_u64m, Int.sub_zero]; (try omega)) (hPl.symm), hS2003.drop⟩
    ·
      skip
      refine WR.skip ?_
      refine WR.seq ?_
      refine WR.region rfl ?_
      refine S.moveT rfl ?_
      refine S.conv Try.underlying22 Try.underlying2 rfl rfl ?_
      refine S.moveT rfl ?_
      refine S.buildStruct [.int _ _, .int _ _] [(0, 1), (1, 1)] Try.underlying24 ti24 rfl (by kernel_rfl) rfl rfl rfl rfl rfl rfl ?_
      refine S.storeB (i := 0) hS12 rfl ti24 rfl rfl rfl rfl rfl rfl rfl rfl ?_
      intro w2004 hS2004; clear hS12
      refine WS.done ?_
      refine WR.ret (retC rfl rfl (run_loadBA (i := 0) hS2004 rfl Try.underlying24 rfl ti24 rfl rfl) ?_)
      exact ⟨tupw (by rw [hPh]; (first | rw [if_pos c16] | rw [if_neg c16]); (first | rw [if_pos c22] | rw [if_neg c22]); simp only [wrap_i64m, wrap_u64m, Int.sub_zero]; (try omega)) (hPl.symm), hS2004.drop⟩

set_option maxRecDepth 100000 in
set_option maxHeartbeats 4000000 in
theorem w_sum {w : World} {R : Kn} {L : List HP}  (hS : St w R (L)) {v0 : Value} {xs : List Int} (h0 : Ro R (encI .i64) 1 v0 xs) (hf : ∀ x ∈ xs, fits x) (hm : xs.length ≤ 100000000) :
    Fn Try.prog 23 #[v0] w (fun v w' => v = .agg #[.int .i64 (wh (xs.sum)), .int .u64 (wl (xs.sum))] ∧ St w' R L) := by
  obtain ⟨a0, c0, rfl, hl0⟩ := h0.len
  refine Fn.intro (n := 18) Try.func23 rfl rfl rfl ?_
  refine WR.seq ?_
  refine WR.region rfl ?_
  refine S.alloc hS ti24 rfl rfl ?_
  intro b2 w2 hS2; clear hS
  refine WS.done ?_
  refine WR.seq ?_
  refine WR.region rfl ?_
  refine S.alloc hS2 ti24 rfl rfl ?_
  intro b3 w3 hS3; clear hS2
  refine WS.done ?_
  refine WR.seq ?_
  refine WR.seq ?_
  refine WR.region rfl ?_
  refine S.moveT rfl ?_
  refine S.lenSl Try.underlying42 rfl rfl ?_
  refine S.moveC rfl ?_
  refine WS.done ?_
  refine WR.block ?_
  refine WR.loopE (fun rq mm rr wr => ∃ (i : Nat), mm = xs.length - i ∧ (i ≤ xs.length) ∧ rr 8 = .int .i64 (i : Int) ∧ Agr [2, 3, 6, 7] rr rq ∧ St wr R (blk b3 (.cells (#[.int .i64 (wh (xs.take i).sum), .int .u64 (wl (xs.take i).sum)]) 24 (0, 0)) :: blk b2 (.cells (#[.int .i64 0, .int .u64 0]) 24 (0, 0)) :: L)) ⟨0, rfl, (by omega), rfl, ⟨rfl, rfl, rfl, rfl, trivial⟩, hS3⟩ ?_
  rintro mm rr w1001 ⟨i, hm1001, hi, hr1001_8, hA1001, hS1001⟩
  obtain ⟨rr, rfl⟩ := agrBack hA1001
  clear hA1001
  obtain ⟨rr, rfl⟩ := back1 (r := rr) hr1001_8
  clear hr1001_8
  refine WR.seq ?_
  refine WR.region rfl ?_
  refine S.lss rfl rfl rfl ?_
  refine WS.done ?_
  refine WR.seq ?_
  refine WR.condD rfl (fun c9 => ?_) (fun c9 => ?_)
  ·
    skip
    refine WR.skip ?_
    refine WR.seq ?_
    refine WR.block ?_
    refine WR.seq ?_
    refine WR.region rfl ?_
    refine S.indexRo h0 Try.underlying42 ti2 rfl rfl (by omega) rfl ?_
    intro ad10 u10 hu10 hl10 hc10
    refine S.loadRo hS1001 hc10 rfl Try.underlying2 rfl rfl rfl ?_
    refine S.assignT rfl ?_
    have hu := hf u10 (List.mem_of_getElem? hu10)
    have hrg := w_range ((xs.take i).sum)
    have hru := w_range u10
    have hag := w_two (xs.take i).sum u10
    refine WS.done ?_
    refine WR.regionW (fun j => Nat.beq j 4) 5 rfl mixed hS1001 ?_
    intro w6001 hS6001; clear hS1001; have hC := hS6001
    refine WA.take (fuel := 4) 0 rfl (by kernel_rfl) (by kernel_rfl) (by kernel_rfl) (by kernel_rfl) rfl rfl hC ?_
    refine Q.loadBA (i := 0) rfl Try.underlying24 rfl ti24 rfl rfl rfl rfl ?_
    refine WQ.done ?_
    refine WA.take (fuel := 3) 1 rfl (by kernel_rfl) (by kernel_rfl) (by kernel_rfl) (by kernel_rfl) rfl rfl hC ?_
    refine Q.moveT rfl ?_
    refine WQ.done ?_
    refine WA.one (fuel := 2) 2 rfl (by kernel_rfl) rfl ?_
    refine S.call ent21 rfl (w_of hS6001 (by exact hu)) rfl ?_
    rintro _ w14 ⟨rfl, hS14⟩
    clear hS6001
    refine WS.done ⟨fun _ => hS14, ?_⟩
    replace hC := hS14
    refine WA.one (fuel := 1) 3 rfl (by kernel_rfl) rfl ?_
    refine S.call ent48 rfl (w_around hS14 (by exact w_fits _) (by exact hrg.2) (by exact w_fits _) (by exact hru.2) (by decide)) rfl ?_
    rintro _ w15 ⟨rfl, hS15⟩
    clear hS14
    refine WS.done ⟨fun _ => hS15, ?_⟩
    replace hC := hS15
    refine WA.one (fuel := 0) 4 rfl (by kernel_rfl) rfl ?_
    refine S.storeB (i := 0) hS15 rfl ti24 rfl rfl rfl rfl rfl rfl rfl rfl ?_
    intro w2002 hS2002; clear hS15
    refine WS.done ⟨fun h => absurd h (by decide), ?_⟩
    refine WA.done (by kernel_rfl) ?_
    clear hC
    refine WR.region rfl ?_
    first
      | refine S.addN rfl rfl rfl (by omega) ?_
      | refine S.add rfl rfl rfl ?_
    refine S.moveT rfl ?_
    refine WS.done ?_
    exact ⟨_, (by omega), ⟨i + 1, rfl, (by omega), rfl, ⟨rfl, rfl, rfl, rfl, trivial⟩, (by rw [sum_succ hu10, ← hag.1, ← hag.2]; exact hS2002)⟩⟩
  ·
    skip
    refine WR.exit ?_
    refine WR.seq ?_
    refine WR.region rfl ?_
    refine S.loadBA (i := 0) hS1001 rfl Try.underlying24 rfl ti24 rfl rfl rfl rfl ?_
    refine S.storeB (i := 1) hS1001 rfl ti24 rfl rfl rfl rfl rfl rfl rfl rfl ?_
    intro w2003 hS2003; clear hS1001
    refine WS.done ?_
    refine WR.ret (retC rfl rfl (run_loadBA (i := 1) hS2003 rfl Try.underlying24 rfl ti24 rfl rfl) ?_)
    have hsm : (xs.take i).sum = xs.sum := by rw [List.take_of_length_le (by omega)]
    exact ⟨tupw (congrArg wh hsm) (congrArg wl hsm), hS2003.drop.drop⟩

set_option maxRecDepth 100000 in
set_option maxHeartbeats 4000000 in
theorem w_long {w : World} {R : Kn} {L : List HP}  (hS : St w R (L)) {ah al : Int} (ha : fits ah) (hal : (0 ≤ al ∧ al < 18446744073709551616)) :
    Fn Try.prog 11 #[.agg #[.int .i64 (ah), .int .u64 (al)]] w (fun v w' => ∃ x, v = .tuple #[.int .i64 x, .bool (decide (fits (ah * 18446744073709551616 + al)))] ∧ (fits (ah * 18446744073709551616 + al) → x = (ah * 18446744073709551616 + al)) ∧ (¬ fits (ah * 18446744073709551616 + al) → x = 0) ∧ St w' R L) := by
  have hah := id ha
  unfold fits at hah
  refine Fn.intro (n := 14) Try.func11 rfl rfl rfl ?_
  refine WR.seq ?_
  refine WR.region rfl ?_
  refine S.box hS rfl rfl rfl ?_
  intro b1 w1 hS1; clear hS
  refine S.assignC rfl ?_
  refine S.assignC rfl ?_
  refine WS.done ?_
  refine WR.seq ?_
  refine WR.seq ?_
  refine WR.region rfl ?_
  refine S.fieldB Try.underlying24 rfl ti22 rfl rfl rfl rfl ?_
  refine S.loadB (i := 0) hS1 rfl Try.underlying22 rfl rfl rfl rfl ?_
  refine S.conv Try.underlying22 Try.underlying2 rfl rfl ?_
  obtain ⟨z, hz⟩ : ∃ z, IntKind.i64.wrap al = z := ⟨_, rfl⟩
  refine S.as (d := 7) rfl (congrArg (Value.int .i64) hz) ?_
  rw [wrap_i64m] at hz
  refine S.assignT rfl ?_
  refine WS.done ?_
  refine WR.seq ?_
  refine WR.region rfl ?_
  refine S.fieldB Try.underlying24 rfl ti2 rfl rfl rfl rfl ?_
  refine S.loadB (i := 0) hS1 rfl Try.underlying2 rfl rfl rfl rfl ?_
  refine S.moveT rfl ?_
  refine S.shrC (q := 9223372036854775808) rfl rfl rfl (by decide) rfl rfl ?_
  refine S.eql rfl rfl rfl ?_
  refine WS.done ?_
  refine WR.condD rfl (fun c12 => ?_) (fun c12 => ?_)
  ·
    skip
    refine WR.seq ?_
    refine WR.region rfl ?_
    refine S.moveT rfl ?_
    refine S.assignT rfl ?_
    refine S.assignC rfl ?_
    refine WS.done ?_
    refine WR.ret (ret2 rfl rfl rfl ?_)
    have hF : fits (ah * 18446744073709551616 + al) := by unfold fits; omega
    exact ⟨_, tup2 rfl (congrArg Value.bool (decide_eq_true hF).symm), fun _ => by omega, fun h => absurd hF h, hS1.drop⟩
  ·
    skip
    refine WR.skip ?_
    refine WR.seq ?_
    refine WR.region rfl ?_
    refine S.assignC rfl ?_
    refine S.assignC rfl ?_
    refine WS.done ?_
    refine WR.ret (ret2 rfl rfl rfl ?_)
    have hF : ¬ fits (ah * 18446744073709551616 + al) := by unfold fits; omega
    exact ⟨_, tup2 rfl (congrArg Value.bool (decide_eq_false hF).symm), fun h => absurd h hF, fun _ => rfl, hS1.drop⟩

set_option maxRecDepth 100000 in
set_option maxHeartbeats 4000000 in
theorem w_magnitude {w : World} {R : Kn} {L : List HP}  (hS : St w R (L)) {ah al : Int} (ha : fits ah) (hal : (0 ≤ al ∧ al < 18446744073709551616)) :
    Fn Try.prog 49 #[.agg #[.int .i64 (ah), .int .u64 (al)]] w (fun v w' => ∃ h l, v = .tuple #[.int .u64 h, .int .u64 l] ∧ (0 ≤ h ∧ h ≤ 9223372036854775808) ∧ (0 ≤ l ∧ l < 18446744073709551616) ∧ h * 18446744073709551616 + l = ((ah * 18446744073709551616 + al).natAbs : Int) ∧ St w' R L) := by
  have hah := id ha
  unfold fits at hah
  refine Fn.intro (n := 16) Try.func49 rfl rfl rfl ?_
  refine WR.seq ?_
  refine WR.region rfl ?_
  refine S.box hS rfl rfl rfl ?_
  intro b1 w1 hS1; clear hS
  refine S.assignC rfl ?_
  refine S.assignC rfl ?_
  refine WS.done ?_
  refine WR.seq ?_
  refine WR.seq ?_
  refine WR.region rfl ?_
  refine S.fieldB Try.underlying24 rfl ti2 rfl rfl rfl rfl ?_
  refine S.loadB (i := 0) hS1 rfl Try.underlying2 rfl rfl rfl rfl ?_
  refine S.lss rfl rfl rfl ?_
  refine WS.done ?_
  refine WR.condD rfl (fun c6 => ?_) (fun c6 => ?_)
  ·
    skip
    refine WR.region rfl ?_
    refine S.loadBA (i := 0) hS1 rfl Try.underlying24 rfl ti24 rfl rfl rfl rfl ?_
    refine S.call ent36 rfl (w_turned hS1 (by exact ha) (by exact hal)) rfl ?_
    rintro _ w8 ⟨rfl, hS8⟩
    clear hS1
    refine S.buildZero ti24 rfl (by kernel_rfl) rfl ?_
    refine S.call ent48 rfl (w_around hS8 (by unfold fits; omega) (by omega) (by decide) (by decide) (by decide)) rfl ?_
    rintro _ w10 ⟨rfl, hS10⟩
    clear hS8
    have hd := w_def ((-1 - ah) * 18446744073709551616 + (18446744073709551615 - al) + (0 * 18446744073709551616 + 0) + 1)
    refine S.storeB (i := 0) hS10 rfl ti24 rfl rfl rfl rfl rfl rfl rfl rfl ?_
    intro w2001 hS2001; clear hS10
    refine WS.done ?_
    refine WR.seq ?_
    refine WR.regionQ mixed hS2001 (by kernel_rfl) rfl ?_
    refine Q.fieldB Try.underlying24 rfl ti2 rfl rfl rfl rfl ?_
    refine Q.loadB (i := 0) rfl Try.underlying2 rfl rfl rfl rfl ?_
    refine Q.conv Try.underlying2 Try.underlying22 rfl rfl ?_
    refine Q.as (d := 13) rfl (congrArg (Value.int .u64) (wrap_u64m _)) ?_
    refine Q.fieldB Try.underlying24 rfl ti22 rfl rfl rfl rfl ?_
    refine Q.loadB (i := 0) rfl Try.underlying22 rfl rfl rfl rfl ?_
    refine Q.assignT rfl ?_
    refine Q.assignT rfl ?_
    refine WQ.done ?_
    intro w5002 hS5002
    clear hS2001
    refine WR.ret (ret2 rfl rfl rfl ?_)
    exact ⟨_, _, rfl, by omega, by omega, by omega, hS5002.drop⟩
  ·
    skip
    refine WR.skip ?_
    refine WR.seq ?_
    refine WR.regionQ mixed hS1 (by kernel_rfl) rfl ?_
    refine Q.fieldB Try.underlying24 rfl ti2 rfl rfl rfl rfl ?_
    refine Q.loadB (i := 0) rfl Try.underlying2 rfl rfl rfl rfl ?_
    refine Q.conv Try.underlying2 Try.underlying22 rfl rfl ?_
    refine Q.as (d := 13) rfl (congrArg (Value.int .u64) (wrap_u64m _)) ?_
    refine Q.fieldB Try.underlying24 rfl ti22 rfl rfl rfl rfl ?_
    refine Q.loadB (i := 0) rfl Try.underlying22 rfl rfl rfl rfl ?_
    refine Q.assignT rfl ?_
    refine Q.assignT rfl ?_
    refine WQ.done ?_
    intro w5003 hS5003
    clear hS1
    refine WR.ret (ret2 rfl rfl rfl ?_)
    exact ⟨_, _, rfl, by omega, by omega, by omega, hS5003.drop⟩

set_option maxRecDepth 100000 in
set_option maxHeartbeats 4000000 in
theorem w_word {w : World} {R : Kn} {L : List HP} {v0 : Value} {xs : List Int} {x : Int} (hS : St w R (Ow 5 (encI .u8) 1 v0 xs :: L)) (hx : (0 ≤ x ∧ x < 18446744073709551616)) (hm : xs.length ≤ 1000000) :
    Fn Try.prog 54 #[v0, .int .u64 x] w (fun v w' => St w' R (Ow 5 (encI .u8) 1 v (xs ++ bw x 8) :: L)) := by
  refine Fn.intro (n := 18) Try.func54 rfl rfl rfl ?_
  refine WR.seq ?_
  refine WR.region rfl ?_
  refine S.assignC rfl ?_
  refine WS.done ?_
  refine WR.seq ?_
  refine WR.seq ?_
  refine WR.region rfl ?_
  refine S.assignC rfl ?_
  refine WS.done ?_
  refine WR.block ?_
  refine WR.loopE (fun rq mm rr wr => ∃ (k : Nat) (v1 : Value), mm = 8 - k ∧ (k ≤ 8) ∧ rr 0 = v1 ∧ rr 5 = .int .i64 (56 - 8 * (k : Int)) ∧ Agr [1] rr rq ∧ St wr R (Ow 5 (encI .u8) 1 v1 (xs ++ bw x k) :: L)) ⟨0, v0, rfl, (by omega), rfl, rfl, ⟨rfl, trivial⟩, (by rw [show bw x 0 = [] from rfl, List.append_nil]; exact hS)⟩ ?_
  rintro mm rr w1001 ⟨k, v1, hm1001, hk, hr1001_0, hr1001_5, hA1001, hS1001⟩
  obtain ⟨rr, rfl⟩ := agrBack hA1001
  clear hA1001
  obtain ⟨rr, rfl⟩ := back2 (r := rr) hr1001_0 hr1001_5
  clear hr1001_0 hr1001_5
  have hbl := bw_len x k
  refine WR.seq ?_
  refine WR.seq ?_
  refine WR.region rfl ?_
  refine S.moveT rfl ?_
  refine S.geq rfl rfl rfl ?_
  refine WS.done ?_
  refine WR.condD rfl (fun c7 => ?_) (fun c7 => ?_)
  ·
    skip
    refine WR.skip ?_
    refine WR.seq ?_
    refine WR.block ?_
    refine WR.region rfl ?_
    refine S.moveT rfl ?_
    refine S.moveT rfl ?_
    refine S.moveT rfl ?_
    refine S.shr rfl rfl (by omega) rfl ?_
    refine S.as (d := 13) rfl (congrArg (Value.int .u64) (shr_at hx (by omega))) ?_
    refine S.conv Try.underlying22 Try.underlying5 rfl rfl ?_
    refine S.as (d := 14) rfl (congrArg (Value.int .u8) (wrap_u8m _)) ?_
    first
      | refine S.buildRow (vs := [.int _ _]) hS1001 Try.underlying59 ti5 rfl rfl rfl rfl rfl rfl rfl ?_
      | refine S.buildRow hS1001 Try.underlying59 ti5 rfl rfl rfl rfl rfl rfl rfl ?_
    intro b15 w15 hS15; clear hS1001
    refine S.appendTmp (i := 0) [_] hS15 rfl rfl (fun _ _ => rfl) Try.underlying59 ti5 rfl rfl rfl rfl encI_one (by rw [List.length_append]; simp; omega) rfl ?_
    intro v16 w16 hS16; clear hS15
    refine S.assignT rfl ?_
    refine WS.done ?_
    refine WR.region rfl ?_
    refine S.moveT rfl ?_
    first
      | refine S.subN rfl rfl rfl (by omega) ?_
      | refine S.sub rfl rfl rfl ?_
    refine S.assignT rfl ?_
    refine WS.done ?_
    exact ⟨_, (by omega), ⟨k + 1, v16, rfl, (by omega), rfl, (by exact congrArg (Value.int .i64) (by omega)), ⟨rfl, trivial⟩, (by rw [List.append_assoc] at hS16; exact hS16)⟩⟩
  ·
    skip
    refine WR.exit ?_
    refine WR.seq ?_
    refine WR.region rfl ?_
    refine S.moveT rfl ?_
    refine S.assignT rfl ?_
    refine WS.done ?_
    refine WR.ret (ret1 rfl rfl ?_)
    obtain rfl : k = 8 := by omega
    exact hS1001

set_option maxRecDepth 100000 in
set_option maxHeartbeats 4000000 in
theorem w_back2 {w : World} {R : Kn} {L : List HP}  (hS : St w R (L)) {v0 : Value} {xs : List Int} (h0 : Ro R (encI .u8) 1 v0 xs) (hb : ∀ x ∈ xs, 0 ≤ x ∧ x < 256) (hm : xs.length = 8) :
    Fn Try.prog 55 #[v0] w (fun v w' => v = .int .u64 (bk xs) ∧ St w' R L) := by
  obtain ⟨a0, c0, rfl, hl0⟩ := h0.len
  refine Fn.intro (n := 19) Try.func55 rfl rfl rfl ?_
  refine WR.seq ?_
  refine WR.region rfl ?_
  refine S.assignC rfl ?_
  refine WS.done ?_
  refine WR.seq ?_
  refine WR.region rfl ?_
  refine S.assignC rfl ?_
  refine WS.done ?_
  refine WR.seq ?_
  refine WR.seq ?_
  refine WR.region rfl ?_
  refine S.moveT rfl ?_
  refine S.lenSl Try.underlying59 rfl rfl ?_
  refine S.moveC rfl ?_
  refine WS.done ?_
  refine WR.block ?_
  refine WR.loopE (fun rq mm rr wr => ∃ (i : Nat), mm = xs.length - i ∧ (i ≤ xs.length) ∧ rr 3 = .int .u64 (bk (xs.take i)) ∧ rr 8 = .int .i64 (i : Int) ∧ Agr [6, 7] rr rq ∧ St wr R L) ⟨0, rfl, (by omega), rfl, rfl, ⟨rfl, rfl, trivial⟩, hS⟩ ?_
  rintro mm rr w1001 ⟨i, hm1001, hi, hr1001_3, hr1001_8, hA1001, hS1001⟩
  obtain ⟨rr, rfl⟩ := agrBack hA1001
  clear hA1001
  obtain ⟨rr, rfl⟩ := back2 (r := rr) hr1001_3 hr1001_8
  clear hr1001_3 hr1001_8
  refine WR.seq ?_
  refine WR.region rfl ?_
  refine S.lss rfl rfl rfl ?_
  refine WS.done ?_
  refine WR.seq ?_
  refine WR.condD rfl (fun c9 => ?_) (fun c9 => ?_)
  ·
    skip
    refine WR.skip ?_
    refine WR.seq ?_
    refine WR.block ?_
    refine WR.seq ?_
    refine WR.region rfl ?_
    refine S.indexRo h0 Try.underlying59 ti5 rfl rfl (by omega) rfl ?_
    intro ad10 u10 hu10 hl10 hc10
    refine S.loadRo hS1001 hc10 rfl Try.underlying5 rfl rfl rfl ?_
    have hu := hb u10 (List.mem_of_getElem? hu10)
    have hbr := bk_lt8 (xs := xs.take i) (by rw [List.length_take]; omega) (fun x hx => hb x (List.mem_of_mem_take hx))
    refine S.assignT rfl ?_
    refine WS.done ?_
    refine WR.region rfl ?_
    refine S.moveT rfl ?_
    refine S.shlC (q := 256) rfl rfl rfl (by decide) rfl ?_
    refine S.moveT rfl ?_
    first
      | refine S.convN Try.underlying5 Try.underlying22 rfl rfl (wrap_u64 (by omega) (by omega)) ?_
      | refine S.conv Try.underlying5 Try.underlying22 rfl rfl ?_
    refine S.or rfl rfl rfl ?_
    refine S.as (d := 16) rfl (congrArg (Value.int .u64) (shl8_or hbr hu)) ?_
    refine S.assignT rfl ?_
    refine WS.done ?_
    refine WR.region rfl ?_
    first
      | refine S.addN rfl rfl rfl (by omega) ?_
      | refine S.add rfl rfl rfl ?_
    refine S.moveT rfl ?_
    refine WS.done ?_
    exact ⟨_, (by omega), ⟨i + 1, rfl, (by omega), (by exact congrArg (Value.int .u64) (by rw [List.take_add_one, getI hu10]; exact (bk_snoc _ _).symm)), rfl, ⟨rfl, rfl, trivial⟩, hS1001⟩⟩
  ·
    skip
    refine WR.exit ?_
    refine WR.seq ?_
    refine WR.region rfl ?_
    refine S.moveT rfl ?_
    refine S.assignT rfl ?_
    refine WS.done ?_
    refine WR.ret (ret1 rfl rfl ?_)
    rw [List.take_of_length_le (by omega)]
    exact ⟨rfl, hS1001⟩

set_option maxRecDepth 100000 in
set_option maxHeartbeats 4000000 in
theorem w_bytes {w : World} {R : Kn} {L : List HP}  (hS : St w R (L)) {ah al : Int} (ha : fits ah) (hal : (0 ≤ al ∧ al < 18446744073709551616)) :
    Fn Try.prog 31 #[.agg #[.int .i64 (ah), .int .u64 (al)]] w (fun v w' => St w' R (Ow 5 (encI .u8) 1 v (bw (ah % 18446744073709551616) 8 ++ bw al 8) :: L)) := by
  have hah := id ha
  unfold fits at hah
  refine Fn.intro (n := 10) Try.func31 rfl rfl rfl ?_
  refine WR.seq ?_
  refine WR.region rfl ?_
  refine S.box hS rfl rfl rfl ?_
  intro b1 w1 hS1; clear hS
  refine S.assignC rfl ?_
  refine WS.done ?_
  refine WR.seq ?_
  refine WR.regionW (fun j => false) 8 rfl mixed hS1 ?_
  intro w6001 hS6001; clear hS1; have hC := hS6001
  refine WA.take (fuel := 7) 0 rfl (by kernel_rfl) (by kernel_rfl) (by kernel_rfl) (by kernel_rfl) rfl rfl hC ?_
  refine Q.fieldB Try.underlying24 rfl ti2 rfl rfl rfl rfl ?_
  refine WQ.done ?_
  refine WA.take (fuel := 6) 1 rfl (by kernel_rfl) (by kernel_rfl) (by kernel_rfl) (by kernel_rfl) rfl rfl hC ?_
  refine Q.loadB (i := 0) rfl Try.underlying2 rfl rfl rfl rfl ?_
  refine WQ.done ?_
  refine WA.take (fuel := 5) 2 rfl (by kernel_rfl) (by kernel_rfl) (by kernel_rfl) (by kernel_rfl) rfl rfl hC ?_
  refine Q.conv Try.underlying2 Try.underlying22 rfl rfl ?_
  refine Q.as (d := 5) rfl (congrArg (Value.int .u64) (wrap_u64m _)) ?_
  refine WQ.done ?_
  refine WA.take (fuel := 4) 4 rfl (by kernel_rfl) (by kernel_rfl) (by kernel_rfl) (by kernel_rfl) rfl rfl hC ?_
  refine Q.fieldB Try.underlying24 rfl ti22 rfl rfl rfl rfl ?_
  refine WQ.done ?_
  refine WA.take (fuel := 3) 5 rfl (by kernel_rfl) (by kernel_rfl) (by kernel_rfl) (by kernel_rfl) rfl rfl hC ?_
  refine Q.loadB (i := 0) rfl Try.underlying22 rfl rfl rfl rfl ?_
  refine WQ.done ?_
  refine WA.one (fuel := 2) 3 rfl (by kernel_rfl) rfl ?_
  refine S.call ent54 rfl (w_word (hS6001.nilRow (α := Int) (enc := encI .u8) (n := 1) (e := 5)) (by omega) (by simp)) rfl ?_
  rintro v6 w6 hS6
  clear hS6001
  refine WS.done ⟨fun _ => hS6.drop, ?_⟩
  replace hC := hS6.drop
  refine WA.one (fuel := 1) 6 rfl (by kernel_rfl) rfl ?_
  refine S.call ent54 rfl (w_word hS6 (by omega) (by rw [List.nil_append, bw_len]; decide)) rfl ?_
  rintro v9 w9 hS9
  clear hS6
  refine WS.done ⟨fun _ => hS9.drop, ?_⟩
  replace hC := hS9.drop
  refine WA.take (fuel := 0) 7 rfl (by kernel_rfl) (by kernel_rfl) (by kernel_rfl) (by kernel_rfl) rfl rfl hC ?_
  refine Q.assignT rfl ?_
  refine WQ.done ?_
  refine WA.done (by kernel_rfl) ?_
  clear hC
  refine WR.ret (ret1 rfl rfl ?_)
  rw [List.nil_append] at hS9
  exact hS9.swap.drop

set_option maxRecDepth 100000 in
set_option maxHeartbeats 4000000 in
theorem w_wback {w : World} {R : Kn} {L : List HP}  (hS : St w R (L)) {v0 : Value} {xs : List Int} (h0 : Ro R (encI .u8) 1 v0 xs) (hb : ∀ x ∈ xs, 0 ≤ x ∧ x < 256) :
    Fn Try.prog 32 #[v0] w (fun v w' => ∃ h l, v = .tuple #[.agg #[.int .i64 (h), .int .u64 (l)], .bool (decide (xs.length = 16))] ∧ (fits h ∧ (0 ≤ l ∧ l < 18446744073709551616)) ∧ ((xs.length = 16 ∧ h % 18446744073709551616 = bk (xs.take 8) ∧ l = bk (xs.drop 8)) ∨ (xs.length ≠ 16 ∧ h = 0 ∧ l = 0)) ∧ St w' R L) := by
  obtain ⟨a0, c0, rfl, hl0⟩ := h0.len
  refine Fn.intro (n := 16) Try.func32 rfl rfl rfl ?_
  refine WR.seq ?_
  refine WR.region rfl ?_
  refine S.alloc hS ti24 rfl rfl ?_
  intro b2 w2 hS2; clear hS
  refine S.assignC rfl ?_
  refine WS.done ?_
  refine WR.seq ?_
  refine WR.seq ?_
  refine WR.region rfl ?_
  refine S.moveT rfl ?_
  refine S.lenSl Try.underlying59 rfl rfl ?_
  refine S.neq rfl rfl rfl ?_
  refine WS.done ?_
  refine WR.condD rfl (fun c6 => ?_) (fun c6 => ?_)
  ·
    skip
    refine WR.seq ?_
    refine WR.region rfl ?_
    refine S.buildZero ti24 rfl (by kernel_rfl) rfl ?_
    refine S.storeB (i := 0) hS2 rfl ti24 rfl rfl rfl rfl rfl rfl rfl rfl ?_
    intro w2001 hS2001; clear hS2
    refine S.assignC rfl ?_
    refine WS.done ?_
    refine WR.ret (retC1 rfl rfl (run_loadBA (i := 0) hS2001 rfl Try.underlying24 rfl ti24 rfl rfl) rfl ?_)
    exact ⟨0, 0, tup2 rfl (congrArg Value.bool (decide_eq_false (by omega)).symm), ⟨by decide, by decide⟩, .inr ⟨by omega, rfl, rfl⟩, hS2001.drop⟩
  ·
    skip
    refine WR.skip ?_
    refine WR.seq ?_
    refine WR.regionW (fun j => Nat.beq j 8 || Nat.beq j 9) 10 rfl mixed hS2 ?_
    intro w6002 hS6002; clear hS2; have hC := hS6002
    refine WA.take (fuel := 9) 0 rfl (by kernel_rfl) (by kernel_rfl) (by kernel_rfl) (by kernel_rfl) rfl rfl hC ?_
    refine Q.moveT rfl ?_
    refine WQ.done ?_
    refine WA.take (fuel := 8) 1 rfl (by kernel_rfl) (by kernel_rfl) (by kernel_rfl) (by kernel_rfl) rfl rfl hC ?_
    refine Q.sliceHi (8) h0 Try.underlying59 ti5 rfl rfl (by omega) (by omega) rfl ?_
    intro a9 cc9 hro9
    refine WQ.done ?_
    refine WA.take (fuel := 7) 4 rfl (by kernel_rfl) (by kernel_rfl) (by kernel_rfl) (by kernel_rfl) rfl rfl hC ?_
    refine Q.moveT rfl ?_
    refine WQ.done ?_
    refine WA.take (fuel := 6) 5 rfl (by kernel_rfl) (by kernel_rfl) (by kernel_rfl) (by kernel_rfl) rfl rfl hC ?_
    refine Q.sliceLo (8) h0 Try.underlying59 ti5 rfl rfl (by omega) (by omega) rfl ?_
    intro a13 cc13 hro13
    refine WQ.done ?_
    refine WA.one (fuel := 5) 2 rfl (by kernel_rfl) rfl ?_
    refine S.call ent55 rfl (w_back2 hS6002 (by exact hro9) (by exact (fun x hx => hb x (List.mem_of_mem_take hx))) (by rw [List.length_take]; omega)) rfl ?_
    rintro _ w10 ⟨rfl, hS10⟩
    clear hS6002
    refine WS.done ⟨fun _ => hS10, ?_⟩
    replace hC := hS10
    refine WA.take (fuel := 4) 3 rfl (by kernel_rfl) (by kernel_rfl) (by kernel_rfl) (by kernel_rfl) rfl rfl hC ?_
    first
      | refine Q.convN Try.underlying22 Try.underlying2 rfl rfl (wrap_i64 (by omega) (by omega)) ?_
      | refine Q.conv Try.underlying22 Try.underlying2 rfl rfl ?_
    refine WQ.done ?_
    refine WA.one (fuel := 3) 6 rfl (by kernel_rfl) rfl ?_
    refine S.call ent55 rfl (w_back2 hS10 (by exact hro13) (by exact (fun x hx => hb x (List.mem_of_mem_drop hx))) (by rw [List.length_drop]; omega)) rfl ?_
    rintro _ w14 ⟨rfl, hS14⟩
    clear hS10
    refine WS.done ⟨fun _ => hS14, ?_⟩
    replace hC := hS14
    refine WA.one (fuel := 2) 7 rfl (by kernel_rfl) rfl ?_
    refine S.buildStruct [.int _ _, .int _ _] [(0, 1), (1, 1)] Try.underlying24 ti24 rfl (by kernel_rfl) rfl rfl rfl rfl rfl rfl ?_
    refine WS.done ⟨fun _ => hS14, ?_⟩
    replace hC := hS14
    refine WA.one (fuel := 1) 8 rfl (by kernel_rfl) rfl ?_
    refine S.storeB (i := 0) hS14 rfl ti24 rfl rfl rfl rfl rfl rfl rfl rfl ?_
    intro w2003 hS2003; clear hS14
    refine WS.done ⟨fun h => absurd h (by decide), ?_⟩
    refine WA.one (fuel := 0) 9 rfl (by kernel_rfl) rfl ?_
    refine S.assignC rfl ?_
    refine WS.done ⟨fun h => absurd h (by decide), ?_⟩
    refine WA.done (by kernel_rfl) ?_
    clear hC
    refine WR.ret (retC1 rfl rfl (run_loadBA (i := 0) hS2003 rfl Try.underlying24 rfl ti24 rfl rfl) rfl ?_)
    have h1 := bk_lt9 (xs := xs.take 8) (by rw [List.length_take]; omega) (fun x hx => hb x (List.mem_of_mem_take hx))
    have h2 := bk_lt9 (xs := xs.drop 8) (by rw [List.length_drop]; omega) (fun x hx => hb x (List.mem_of_mem_drop hx))
    exact ⟨_, _, tup2 rfl (congrArg Value.bool (decide_eq_true (by omega)).symm), ⟨by rw [wrap_i64m]; unfold fits; omega, h2⟩, .inl ⟨by omega, by rw [wrap_i64m]; omega, rfl⟩, hS2003.drop⟩


end Go.Proofs.Ytnfideifgegijaa.B

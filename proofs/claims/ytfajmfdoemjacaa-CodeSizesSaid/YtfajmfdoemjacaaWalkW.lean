import Derived.Test.YtfajmfdoemjacaaTypes
namespace Go.Proofs.Ytfajmfdoemjacaa.B
open Go.Proofs Go.RowKit
set_option linter.unusedVariables false
set_option linter.unusedSimpArgs false
set_option maxRecDepth 100000 in
set_option maxHeartbeats 4000000 in
theorem c_turn {w : World} {R : Kn} {L : List HP}  (hS : St w R (L)) {a : Int} (ha : -9223372036854775808 ≤ a ∧ a ≤ 9223372036854775807) :
    Fn Try.prog 11 #[.int .i64 a] w (fun v w' => v = .int .u64 (turn a) ∧ St w' R L) := by
  refine Fn.intro (n := 10) Try.func11 rfl rfl rfl ?_
  refine WR.seq ?_
  refine WR.region rfl ?_
  refine S.assignC rfl ?_
  refine WS.done ?_
  refine WR.seq ?_
  refine WR.region rfl ?_
  have hw1 : True := trivial
  refine S.moveT rfl ?_
  refine S.shlC (q := 2) rfl rfl rfl (by decide) rfl ?_
  refine S.conv Try.underlying2 Try.underlying28 rfl rfl ?_
  refine S.moveT rfl ?_
  refine S.shrC (q := 9223372036854775808) rfl rfl rfl (by decide) rfl rfl ?_
  refine S.conv Try.underlying2 Try.underlying28 rfl rfl ?_
  refine S.xor rfl rfl rfl ?_
  refine S.assignT rfl ?_
  refine WS.done ?_
  refine WR.ret (ret1 rfl rfl ?_)
  exact ⟨congrArg (Value.int .u64) (turn_bits ha), hS⟩

set_option maxRecDepth 100000 in
set_option maxHeartbeats 4000000 in
theorem c_put {w : World} {R : Kn} {L : List HP} {v0 : Value} {xs : List Int} {n : Nat} (hS : St w R (Ow 5 (encI .u8) 1 v0 xs :: L)) (hn : n < 18446744073709551616) (hm : xs.length ≤ 100000000) :
    Fn Try.prog 29 #[v0, .int .u64 (n : Int)] w (fun v w' => St w' R (Ow 5 (encI .u8) 1 v (xs ++ ub n) :: L)) := by
  have hn10 := ub_len10 hn
  refine Fn.intro (n := 20) Try.func29 rfl rfl rfl ?_
  refine WR.seq ?_
  refine WR.region rfl ?_
  refine S.assignC rfl ?_
  refine WS.done ?_
  refine WR.seq ?_
  refine WR.block ?_
  refine WR.loopE (fun rq mm rr wr => ∃ (m : Nat) (v1 : Value) (ys : List Int), mm = m ∧ (m < 18446744073709551616 ∧ ys ++ ub m = xs ++ ub n) ∧ rr 0 = v1 ∧ rr 1 = .int .u64 (m : Int) ∧ Agr [] rr rq ∧ St wr R (Ow 5 (encI .u8) 1 v1 ys :: L)) ⟨n, v0, xs, rfl, (by exact ⟨by omega, rfl⟩), rfl, rfl, trivial, hS⟩ ?_
  rintro mm rr w1001 ⟨m, v1, ys, hm1001, ⟨hmn, heq⟩, hr1001_0, hr1001_1, hA1001, hS1001⟩
  obtain ⟨rr, rfl⟩ := agrBack hA1001
  clear hA1001
  obtain ⟨rr, rfl⟩ := back2 (r := rr) hr1001_0 hr1001_1
  clear hr1001_0 hr1001_1
  have hle := congrArg List.length heq
  simp only [List.length_append] at hle
  have hp := ub_pos m
  refine WR.seq ?_
  refine WR.seq ?_
  refine WR.region rfl ?_
  refine S.moveT rfl ?_
  refine S.geq rfl rfl rfl ?_
  refine WS.done ?_
  refine WR.condD rfl (fun c6 => ?_) (fun c6 => ?_)
  ·
    skip
    refine WR.skip ?_
    refine WR.seq ?_
    refine WR.block ?_
    refine WR.region rfl ?_
    refine S.moveT rfl ?_
    refine S.moveT rfl ?_
    first
      | refine S.convN Try.underlying28 Try.underlying5 rfl rfl (wrap_u8 (by omega) (by omega)) ?_
      | refine S.conv Try.underlying28 Try.underlying5 rfl rfl ?_
    refine S.or rfl rfl rfl ?_
    refine S.as (d := 12) rfl (congrArg (Value.int .u8) (put_byte m)) ?_
    first
      | refine S.buildRow (vs := [.int _ _]) hS1001 Try.underlying26 ti5 rfl rfl rfl rfl rfl rfl rfl ?_
      | refine S.buildRow hS1001 Try.underlying26 ti5 rfl rfl rfl rfl rfl rfl rfl ?_
    intro b13 w13 hS13; clear hS1001
    refine S.appendTmp (i := 0) [_] hS13 rfl rfl (fun _ _ => rfl) Try.underlying26 ti5 rfl rfl rfl rfl encI_one (by simp; omega) rfl ?_
    intro v14 w14 hS14; clear hS13
    refine S.assignT rfl ?_
    refine WS.done ?_
    refine WR.region rfl ?_
    refine S.moveT rfl ?_
    refine S.shrC (q := 128) rfl rfl rfl (by decide) rfl rfl ?_
    refine S.assignT rfl ?_
    refine WS.done ?_
    exact ⟨_, (by omega), ⟨m / 128, v14, _, rfl, (by exact ⟨by omega, by rw [List.append_assoc, ← heq, ub_hi (n := m) (by omega)]; rfl⟩), rfl, (by exact congrArg (Value.int .u64) (by omega)), trivial, hS14⟩⟩
  ·
    skip
    refine WR.exit ?_
    refine WR.seq ?_
    refine WR.region rfl ?_
    refine S.moveT rfl ?_
    refine S.moveT rfl ?_
    first
      | refine S.convN Try.underlying28 Try.underlying5 rfl rfl (wrap_u8 (by omega) (by omega)) ?_
      | refine S.conv Try.underlying28 Try.underlying5 rfl rfl ?_
    first
      | refine S.buildRow (vs := [.int _ _]) hS1001 Try.underlying26 ti5 rfl rfl rfl rfl rfl rfl rfl ?_
      | refine S.buildRow hS1001 Try.underlying26 ti5 rfl rfl rfl rfl rfl rfl rfl ?_
    intro b18 w18 hS18; clear hS1001
    refine S.appendTmp (i := 0) [_] hS18 rfl rfl (fun _ _ => rfl) Try.underlying26 ti5 rfl rfl rfl rfl encI_one (by simp; omega) rfl ?_
    intro v19 w19 hS19; clear hS18
    refine S.assignT rfl ?_
    refine WS.done ?_
    refine WR.ret (ret1 rfl rfl ?_)
    rw [← heq, ub_lo (n := m) (by omega)]
    exact hS19

set_option maxRecDepth 100000 in
set_option maxHeartbeats 4000000 in
theorem c_unturn {w : World} {R : Kn} {L : List HP}  (hS : St w R (L)) {a : Int} (ha : 0 ≤ a ∧ a < 18446744073709551616) :
    Fn Try.prog 9 #[.int .u64 a] w (fun v w' => v = .int .i64 (unturn a) ∧ St w' R L) := by
  refine Fn.intro (n := 11) Try.func9 rfl rfl rfl ?_
  refine WR.seq ?_
  refine WR.region rfl ?_
  refine S.assignC rfl ?_
  refine WS.done ?_
  refine WR.seq ?_
  refine WR.region rfl ?_
  refine S.moveT rfl ?_
  refine S.shrC (q := 2) rfl rfl rfl (by decide) rfl rfl ?_
  first
    | refine S.convN Try.underlying28 Try.underlying2 rfl rfl (wrap_i64 (by omega) (by omega)) ?_
    | refine S.conv Try.underlying28 Try.underlying2 rfl rfl ?_
  refine S.moveT rfl ?_
  refine S.and rfl rfl rfl ?_
  refine S.as (d := 7) rfl (congrArg (Value.int .u64) (and_u64_1 ha)) ?_
  first
    | refine S.convN Try.underlying28 Try.underlying2 rfl rfl (wrap_i64 (by omega) (by omega)) ?_
    | refine S.conv Try.underlying28 Try.underlying2 rfl rfl ?_
  first
    | refine S.negN rfl rfl (by omega) ?_
    | refine S.neg rfl rfl ?_
  refine S.xor rfl rfl rfl ?_
  refine S.assignT rfl ?_
  refine WS.done ?_
  refine WR.ret (ret1 rfl rfl ?_)
  exact ⟨congrArg (Value.int .i64) (unturn_bits ha), hS⟩

set_option maxRecDepth 100000 in
set_option maxHeartbeats 4000000 in
theorem r6_turn {w : World} {R : Kn} {L : List HP}  (hS : St w R (L)) {a : Int} (ha : -9223372036854775808 ≤ a ∧ a ≤ 9223372036854775807) :
    Fn Try.prog 13 #[.int .i64 a] w (fun v w' => v = .int .u64 (turn a) ∧ St w' R L) := by
  have ht := turn_cases a
  refine Fn.intro (n := 14) Try.func13 rfl rfl rfl ?_
  refine WR.seq ?_
  refine WR.region rfl ?_
  refine S.assignC rfl ?_
  refine WS.done ?_
  refine WR.seq ?_
  refine WR.seq ?_
  refine WR.region rfl ?_
  refine S.moveT rfl ?_
  refine S.geq rfl rfl rfl ?_
  refine WS.done ?_
  refine WR.condD rfl (fun c4 => ?_) (fun c4 => ?_)
  ·
    skip
    refine WR.seq ?_
    refine WR.region rfl ?_
    refine S.moveT rfl ?_
    first
      | refine S.convN Try.underlying2 Try.underlying28 rfl rfl (wrap_u64 (by omega) (by omega)) ?_
      | refine S.conv Try.underlying2 Try.underlying28 rfl rfl ?_
    first
      | refine S.mulU rfl rfl rfl (by omega) ?_
      | refine S.mul rfl rfl rfl ?_
    refine S.assignT rfl ?_
    refine WS.done ?_
    refine WR.ret (ret1 rfl rfl ?_)
    exact ⟨congrArg (Value.int .u64) (by omega), hS⟩
  ·
    skip
    refine WR.skip ?_
    refine WR.seq ?_
    refine WR.region rfl ?_
    refine S.moveT rfl ?_
    first
      | refine S.addN rfl rfl rfl (by omega) ?_
      | refine S.add rfl rfl rfl ?_
    first
      | refine S.negN rfl rfl (by omega) ?_
      | refine S.neg rfl rfl ?_
    first
      | refine S.convN Try.underlying2 Try.underlying28 rfl rfl (wrap_u64 (by omega) (by omega)) ?_
      | refine S.conv Try.underlying2 Try.underlying28 rfl rfl ?_
    first
      | refine S.mulU rfl rfl rfl (by omega) ?_
      | refine S.mul rfl rfl rfl ?_
    first
      | refine S.addU rfl rfl rfl (by omega) ?_
      | refine S.add rfl rfl rfl ?_
    refine S.assignT rfl ?_
    refine WS.done ?_
    refine WR.ret (ret1 rfl rfl ?_)
    exact ⟨congrArg (Value.int .u64) (by omega), hS⟩

set_option maxRecDepth 100000 in
set_option maxHeartbeats 4000000 in
theorem r6_unturn {w : World} {R : Kn} {L : List HP}  (hS : St w R (L)) {a : Int} (ha : 0 ≤ a ∧ a < 18446744073709551616) :
    Fn Try.prog 10 #[.int .u64 a] w (fun v w' => v = .int .i64 (unturn a) ∧ St w' R L) := by
  have ht := unturn_cases a
  refine Fn.intro (n := 14) Try.func10 rfl rfl rfl ?_
  refine WR.seq ?_
  refine WR.region rfl ?_
  refine S.assignC rfl ?_
  refine WS.done ?_
  refine WR.seq ?_
  refine WR.seq ?_
  refine WR.region rfl ?_
  refine S.moveT rfl ?_
  first
    | refine S.remN rfl rfl (by omega) (by omega) rfl ?_
    | refine S.rem rfl rfl (by omega) rfl ?_
  refine S.eql rfl rfl rfl ?_
  refine WS.done ?_
  refine WR.condD rfl (fun c5 => ?_) (fun c5 => ?_)
  ·
    skip
    refine WR.seq ?_
    refine WR.region rfl ?_
    refine S.moveT rfl ?_
    refine S.quoU rfl rfl (by omega) (by omega) rfl ?_
    first
      | refine S.convN Try.underlying28 Try.underlying2 rfl rfl (wrap_i64 (by omega) (by omega)) ?_
      | refine S.conv Try.underlying28 Try.underlying2 rfl rfl ?_
    refine S.assignT rfl ?_
    refine WS.done ?_
    refine WR.ret (ret1 rfl rfl ?_)
    exact ⟨congrArg (Value.int .i64) (by omega), hS⟩
  ·
    skip
    refine WR.skip ?_
    refine WR.seq ?_
    refine WR.region rfl ?_
    refine S.moveT rfl ?_
    refine S.quoU rfl rfl (by omega) (by omega) rfl ?_
    first
      | refine S.convN Try.underlying28 Try.underlying2 rfl rfl (wrap_i64 (by omega) (by omega)) ?_
      | refine S.conv Try.underlying28 Try.underlying2 rfl rfl ?_
    first
      | refine S.negN rfl rfl (by omega) ?_
      | refine S.neg rfl rfl ?_
    first
      | refine S.subN rfl rfl rfl (by omega) ?_
      | refine S.sub rfl rfl rfl ?_
    refine S.assignT rfl ?_
    refine WS.done ?_
    refine WR.ret (ret1 rfl rfl ?_)
    exact ⟨congrArg (Value.int .i64) (by omega), hS⟩

set_option maxRecDepth 100000 in
set_option maxHeartbeats 4000000 in
theorem r6_uint {w : World} {R : Kn} {L : List HP}  (hS : St w R (L)) {n : Nat} (hn : n < 18446744073709551616) :
    Fn Try.prog 8 #[.int .u64 (n : Int)] w (fun v w' => St w' R (Ow 5 (encI .u8) 1 v (ub n) :: L)) := by
  have hn10 := ub_len10 hn
  refine Fn.intro (n := 21) Try.func8 rfl rfl rfl ?_
  refine WR.seq ?_
  refine WR.region rfl ?_
  refine S.assignC rfl ?_
  refine WS.done ?_
  refine WR.seq ?_
  refine WR.region rfl ?_
  first
    | refine S.buildRow (vs := []) hS Try.underlying26 ti5 rfl rfl rfl rfl rfl rfl rfl ?_
    | refine S.buildRow hS Try.underlying26 ti5 rfl rfl rfl rfl rfl rfl rfl ?_
  intro b4 w4 hS4; clear hS
  have hSo := hS4.ownRow (enc := encI .u8) (n := 1) [] rfl (fun _ h => by cases h) (by simp)
  refine S.assignT rfl ?_
  refine WS.done ?_
  refine WR.seq ?_
  refine WR.block ?_
  refine WR.loopE (fun rq mm rr wr => ∃ (m : Nat) (v3 : Value) (ys : List Int), mm = m ∧ (m < 18446744073709551616 ∧ ys ++ ub m = ub n) ∧ rr 0 = .int .u64 (m : Int) ∧ rr 3 = v3 ∧ Agr [] rr rq ∧ St wr R (Ow 5 (encI .u8) 1 v3 ys :: L)) ⟨n, _, [], rfl, (by exact ⟨by omega, rfl⟩), rfl, rfl, trivial, hSo⟩ ?_
  rintro mm rr w1001 ⟨m, v3, ys, hm1001, ⟨hmn, heq⟩, hr1001_0, hr1001_3, hA1001, hS1001⟩
  obtain ⟨rr, rfl⟩ := agrBack hA1001
  clear hA1001
  obtain ⟨rr, rfl⟩ := back2 (r := rr) hr1001_0 hr1001_3
  clear hr1001_0 hr1001_3
  have hle := congrArg List.length heq
  simp only [List.length_append] at hle
  have hp := ub_pos m
  refine WR.seq ?_
  refine WR.seq ?_
  refine WR.region rfl ?_
  refine S.moveT rfl ?_
  refine S.geq rfl rfl rfl ?_
  refine WS.done ?_
  refine WR.condD rfl (fun c6 => ?_) (fun c6 => ?_)
  ·
    skip
    refine WR.skip ?_
    refine WR.block ?_
    refine WR.seq ?_
    refine WR.region rfl ?_
    refine S.moveT rfl ?_
    refine S.moveT rfl ?_
    first
      | refine S.remN rfl rfl (by omega) (by omega) rfl ?_
      | refine S.rem rfl rfl (by omega) rfl ?_
    first
      | refine S.addU rfl rfl rfl (by omega) ?_
      | refine S.add rfl rfl rfl ?_
    first
      | refine S.convN Try.underlying28 Try.underlying5 rfl rfl (wrap_u8 (by omega) (by omega)) ?_
      | refine S.conv Try.underlying28 Try.underlying5 rfl rfl ?_
    first
      | refine S.buildRow (vs := [.int _ _]) hS1001 Try.underlying26 ti5 rfl rfl rfl rfl rfl rfl rfl ?_
      | refine S.buildRow hS1001 Try.underlying26 ti5 rfl rfl rfl rfl rfl rfl rfl ?_
    intro b12 w12 hS12; clear hS1001
    refine S.appendTmp (i := 0) [_] hS12 rfl rfl (fun _ _ => rfl) Try.underlying26 ti5 rfl rfl rfl rfl encI_one (by simp; omega) rfl ?_
    intro v13 w13 hS13; clear hS12
    refine S.assignT rfl ?_
    refine WS.done ?_
    refine WR.region rfl ?_
    refine S.moveT rfl ?_
    refine S.quoU rfl rfl (by omega) (by omega) rfl ?_
    refine S.assignT rfl ?_
    refine WS.done ?_
    exact ⟨_, (by omega), ⟨m / 128, v13, _, rfl, (by exact ⟨by omega, by rw [List.append_assoc, ← heq, ub_hi (n := m) (by omega)]; rfl⟩), (by exact congrArg (Value.int .u64) (by omega)), rfl, trivial, hS13⟩⟩
  ·
    skip
    refine WR.exit ?_
    refine WR.seq ?_
    refine WR.region rfl ?_
    refine S.moveT rfl ?_
    refine S.moveT rfl ?_
    first
      | refine S.convN Try.underlying28 Try.underlying5 rfl rfl (wrap_u8 (by omega) (by omega)) ?_
      | refine S.conv Try.underlying28 Try.underlying5 rfl rfl ?_
    first
      | refine S.buildRow (vs := [.int _ _]) hS1001 Try.underlying26 ti5 rfl rfl rfl rfl rfl rfl rfl ?_
      | refine S.buildRow hS1001 Try.underlying26 ti5 rfl rfl rfl rfl rfl rfl rfl ?_
    intro b19 w19 hS19; clear hS1001
    refine S.appendTmp (i := 0) [_] hS19 rfl rfl (fun _ _ => rfl) Try.underlying26 ti5 rfl rfl rfl rfl encI_one (by simp; omega) rfl ?_
    intro v20 w20 hS20; clear hS19
    refine S.assignT rfl ?_
    refine WS.done ?_
    refine WR.ret (ret1 rfl rfl ?_)
    rw [← heq, ub_lo (n := m) (by omega)]
    exact hS20

set_option maxRecDepth 100000 in
set_option maxHeartbeats 4000000 in
theorem c_uints {w : World} {R : Kn} {L : List HP}  (hS : St w R (L)) {v0 : Value} {xs : List Int} (h0 : Ro R (encI .u64) 1 v0 xs) (hf : ∀ x ∈ xs, 0 ≤ x ∧ x < 18446744073709551616) (hm : xs.length ≤ 1000000) :
    Fn Try.prog 16 #[v0] w (fun v w' => St w' R (Ow 5 (encI .u8) 1 v (uB xs) :: L)) := by
  obtain ⟨a0, c0, rfl, hl0⟩ := h0.len
  refine Fn.intro (n := 17) Try.func16 rfl rfl rfl ?_
  refine WR.seq ?_
  refine WR.region rfl ?_
  refine S.assignC rfl ?_
  refine WS.done ?_
  refine WR.seq ?_
  refine WR.region rfl ?_
  refine S.assignC rfl ?_
  have hSo := hS.nilRow (α := Int) (enc := encI .u8) (n := 1) (e := 5)
  refine WS.done ?_
  refine WR.seq ?_
  refine WR.seq ?_
  refine WR.region rfl ?_
  refine S.moveT rfl ?_
  refine S.lenSl Try.underlying22 rfl rfl ?_
  refine S.moveC rfl ?_
  refine WS.done ?_
  refine WR.block ?_
  refine WR.loopE (fun rq mm rr wr => ∃ (i : Nat) (v3 : Value), mm = xs.length - i ∧ (i ≤ xs.length) ∧ rr 3 = v3 ∧ rr 8 = .int .i64 (i : Int) ∧ Agr [6, 7] rr rq ∧ St wr R (Ow 5 (encI .u8) 1 v3 (uB (xs.take i)) :: L)) ⟨0, _, rfl, (by omega), rfl, rfl, ⟨rfl, rfl, trivial⟩, hSo⟩ ?_
  rintro mm rr w1001 ⟨i, v3, hm1001, hi, hr1001_3, hr1001_8, hA1001, hS1001⟩
  obtain ⟨rr, rfl⟩ := agrBack hA1001
  clear hA1001
  obtain ⟨rr, rfl⟩ := back2 (r := rr) hr1001_3 hr1001_8
  clear hr1001_3 hr1001_8
  refine WR.seq ?_
  refine WR.region rfl ?_
  refine S.lss rfl rfl rfl ?_
  refine WS.done ?_
  refine WR.seq ?_
  refine WR.condD rfl (fun c9 => ?_) (fun c9 => ?_)
  ·
    skip
    refine WR.skip ?_
    refine WR.seq ?_
    refine WR.block ?_
    refine WR.seq ?_
    refine WR.region rfl ?_
    refine S.indexRo h0 Try.underlying22 ti28 rfl rfl (by omega) rfl ?_
    intro ad10 u10 hu10 hl10 hc10
    refine S.loadRo hS1001 hc10 rfl Try.underlying28 rfl rfl rfl ?_
    have hu := hf u10 (List.mem_of_getElem? hu10)
    obtain ⟨n10, rfl⟩ := Int.eq_ofNat_of_zero_le hu.1
    refine S.assignT rfl ?_
    refine WS.done ?_
    refine WR.region rfl ?_
    refine S.moveT rfl ?_
    refine S.moveT rfl ?_
    refine S.call ent29 rfl (c_put hS1001 (by omega) (by have := uB_len hf i; rw [List.length_take] at this; omega)) rfl ?_
    rintro v14 w14 hS14
    clear hS1001
    refine S.assignT rfl ?_
    refine WS.done ?_
    refine WR.region rfl ?_
    first
      | refine S.addN rfl rfl rfl (by omega) ?_
      | refine S.add rfl rfl rfl ?_
    refine S.moveT rfl ?_
    refine WS.done ?_
    exact ⟨_, (by omega), ⟨i + 1, v14, rfl, (by omega), rfl, rfl, ⟨rfl, rfl, trivial⟩, (by rw [uB_succ (getI hu10), Int.toNat_natCast]; exact hS14)⟩⟩
  ·
    skip
    refine WR.exit ?_
    refine WR.seq ?_
    refine WR.region rfl ?_
    refine S.moveT rfl ?_
    refine S.assignT rfl ?_
    refine WS.done ?_
    refine WR.ret (ret1 rfl rfl ?_)
    rw [List.take_of_length_le (by omega)] at hS1001
    exact hS1001

set_option maxRecDepth 100000 in
set_option maxHeartbeats 4000000 in
theorem c_ints {w : World} {R : Kn} {L : List HP}  (hS : St w R (L)) {v0 : Value} {xs : List Int} (h0 : Ro R (encI .i64) 1 v0 xs) (hf : ∀ x ∈ xs, -9223372036854775808 ≤ x ∧ x ≤ 9223372036854775807) (hm : xs.length ≤ 1000000) :
    Fn Try.prog 17 #[v0] w (fun v w' => St w' R (Ow 5 (encI .u8) 1 v (iB xs) :: L)) := by
  obtain ⟨a0, c0, rfl, hl0⟩ := h0.len
  refine Fn.intro (n := 18) Try.func17 rfl rfl rfl ?_
  refine WR.seq ?_
  refine WR.region rfl ?_
  refine S.assignC rfl ?_
  refine WS.done ?_
  refine WR.seq ?_
  refine WR.region rfl ?_
  refine S.assignC rfl ?_
  have hSo := hS.nilRow (α := Int) (enc := encI .u8) (n := 1) (e := 5)
  refine WS.done ?_
  refine WR.seq ?_
  refine WR.seq ?_
  refine WR.region rfl ?_
  refine S.moveT rfl ?_
  refine S.lenSl Try.underlying23 rfl rfl ?_
  refine S.moveC rfl ?_
  refine WS.done ?_
  refine WR.block ?_
  refine WR.loopE (fun rq mm rr wr => ∃ (i : Nat) (v3 : Value), mm = xs.length - i ∧ (i ≤ xs.length) ∧ rr 3 = v3 ∧ rr 8 = .int .i64 (i : Int) ∧ Agr [6, 7] rr rq ∧ St wr R (Ow 5 (encI .u8) 1 v3 (iB (xs.take i)) :: L)) ⟨0, _, rfl, (by omega), rfl, rfl, ⟨rfl, rfl, trivial⟩, hSo⟩ ?_
  rintro mm rr w1001 ⟨i, v3, hm1001, hi, hr1001_3, hr1001_8, hA1001, hS1001⟩
  obtain ⟨rr, rfl⟩ := agrBack hA1001
  clear hA1001
  obtain ⟨rr, rfl⟩ := back2 (r := rr) hr1001_3 hr1001_8
  clear hr1001_3 hr1001_8
  refine WR.seq ?_
  refine WR.region rfl ?_
  refine S.lss rfl rfl rfl ?_
  refine WS.done ?_
  refine WR.seq ?_
  refine WR.condD rfl (fun c9 => ?_) (fun c9 => ?_)
  ·
    skip
    refine WR.skip ?_
    refine WR.seq ?_
    refine WR.block ?_
    refine WR.seq ?_
    refine WR.region rfl ?_
    refine S.indexRo h0 Try.underlying23 ti2 rfl rfl (by omega) rfl ?_
    intro ad10 u10 hu10 hl10 hc10
    refine S.loadRo hS1001 hc10 rfl Try.underlying2 rfl rfl rfl ?_
    have hu := hf u10 (List.mem_of_getElem? hu10)
    refine S.assignT rfl ?_
    refine WS.done ?_
    refine WR.region rfl ?_
    refine S.moveT rfl ?_
    refine S.moveT rfl ?_
    refine S.call ent11 rfl (c_turn hS1001 (by omega)) rfl ?_
    rintro _ w14 ⟨rfl, hS14⟩
    clear hS1001
    obtain ⟨n14, hn14⟩ := Int.eq_ofNat_of_zero_le (turn_u64 hu).1
    have htf := (turn_u64 hu).2
    refine S.as (d := 14) rfl (congrArg (Value.int .u64) hn14) ?_
    refine S.call ent29 rfl (c_put hS14 (by omega) (by have := iB_len hf i; rw [List.length_take] at this; omega)) rfl ?_
    rintro v15 w15 hS15
    clear hS14
    refine S.assignT rfl ?_
    refine WS.done ?_
    refine WR.region rfl ?_
    first
      | refine S.addN rfl rfl rfl (by omega) ?_
      | refine S.add rfl rfl rfl ?_
    refine S.moveT rfl ?_
    refine WS.done ?_
    exact ⟨_, (by omega), ⟨i + 1, v15, rfl, (by omega), rfl, rfl, ⟨rfl, rfl, trivial⟩, (by rw [iB_succ (getI hu10), hn14, Int.toNat_natCast]; exact hS15)⟩⟩
  ·
    skip
    refine WR.exit ?_
    refine WR.seq ?_
    refine WR.region rfl ?_
    refine S.moveT rfl ?_
    refine S.assignT rfl ?_
    refine WS.done ?_
    refine WR.ret (ret1 rfl rfl ?_)
    rw [List.take_of_length_le (by omega)] at hS1001
    exact hS1001

set_option maxRecDepth 100000 in
set_option maxHeartbeats 4000000 in
theorem c_texts {w : World} {R : Kn} {L : List HP}  (hS : St w R (L)) {v0 : Value} {xs : List ByteArray} (h0 : Ro R encS 1 v0 xs) (hf : ∀ x ∈ xs, x.size ≤ 1000) (hm : xs.length ≤ 10000) :
    Fn Try.prog 18 #[v0] w (fun v w' => St w' R (Ow 5 (encI .u8) 1 v (tB xs) :: L)) := by
  obtain ⟨a0, c0, rfl, hl0⟩ := h0.len
  refine Fn.intro (n := 21) Try.func18 rfl rfl rfl ?_
  refine WR.seq ?_
  refine WR.region rfl ?_
  refine S.assignC rfl ?_
  refine WS.done ?_
  refine WR.seq ?_
  refine WR.region rfl ?_
  refine S.assignC rfl ?_
  have hSo := hS.nilRow (α := Int) (enc := encI .u8) (n := 1) (e := 5)
  refine WS.done ?_
  refine WR.seq ?_
  refine WR.seq ?_
  refine WR.region rfl ?_
  refine S.moveT rfl ?_
  refine S.lenSl Try.underlying24 rfl rfl ?_
  refine S.moveC rfl ?_
  refine WS.done ?_
  refine WR.block ?_
  refine WR.loopE (fun rq mm rr wr => ∃ (i : Nat) (v3 : Value), mm = xs.length - i ∧ (i ≤ xs.length) ∧ rr 3 = v3 ∧ rr 8 = .int .i64 (i : Int) ∧ Agr [6, 7] rr rq ∧ St wr R (Ow 5 (encI .u8) 1 v3 (tB (xs.take i)) :: L)) ⟨0, _, rfl, (by omega), rfl, rfl, ⟨rfl, rfl, trivial⟩, hSo⟩ ?_
  rintro mm rr w1001 ⟨i, v3, hm1001, hi, hr1001_3, hr1001_8, hA1001, hS1001⟩
  obtain ⟨rr, rfl⟩ := agrBack hA1001
  clear hA1001
  obtain ⟨rr, rfl⟩ := back2 (r := rr) hr1001_3 hr1001_8
  clear hr1001_3 hr1001_8
  refine WR.seq ?_
  refine WR.region rfl ?_
  refine S.lss rfl rfl rfl ?_
  refine WS.done ?_
  refine WR.seq ?_
  refine WR.condD rfl (fun c9 => ?_) (fun c9 => ?_)
  ·
    skip
    refine WR.skip ?_
    refine WR.seq ?_
    refine WR.block ?_
    refine WR.seq ?_
    refine WR.region rfl ?_
    refine S.indexRo h0 Try.underlying24 ti9 rfl rfl (by omega) rfl ?_
    intro ad10 u10 hu10 hl10 hc10
    refine S.loadRo hS1001 hc10 rfl Try.underlying9 rfl rfl rfl ?_
    have hu := hf u10 (List.mem_of_getElem? hu10)
    have htl := tB_len (xs.take i) (fun x hx => hf x (List.mem_of_mem_take hx))
    rw [List.length_take] at htl
    have hu10l := ub_len10 (n := u10.size) (by omega)
    refine S.assignT rfl ?_
    refine WS.done ?_
    refine WR.region rfl ?_
    refine S.moveT rfl ?_
    refine S.moveT rfl ?_
    refine S.lenStr Try.underlying9 rfl rfl ?_
    first
      | refine S.convN Try.underlying3 Try.underlying28 rfl rfl (wrap_u64 (by omega) (by omega)) ?_
      | refine S.conv Try.underlying3 Try.underlying28 rfl rfl ?_
    refine S.call ent29 rfl (c_put hS1001 (by omega) (by omega)) rfl ?_
    rintro v16 w16 hS16
    clear hS1001
    refine S.moveT rfl ?_
    refine S.appendStr (i := 0) hS16 rfl Try.underlying26 Try.underlying9 ti5 rfl rfl rfl (by rw [List.length_append]; omega) rfl ?_
    intro v18 w18 hS18; clear hS16
    refine S.assignT rfl ?_
    refine WS.done ?_
    refine WR.region rfl ?_
    first
      | refine S.addN rfl rfl rfl (by omega) ?_
      | refine S.add rfl rfl rfl ?_
    refine S.moveT rfl ?_
    refine WS.done ?_
    exact ⟨_, (by omega), ⟨i + 1, v18, rfl, (by omega), rfl, rfl, ⟨rfl, rfl, trivial⟩, (by rw [tB_succ (getI hu10), ← List.append_assoc]; exact hS18)⟩⟩
  ·
    skip
    refine WR.exit ?_
    refine WR.seq ?_
    refine WR.region rfl ?_
    refine S.moveT rfl ?_
    refine S.assignT rfl ?_
    refine WS.done ?_
    refine WR.ret (ret1 rfl rfl ?_)
    rw [List.take_of_length_le (by omega)] at hS1001
    exact hS1001

set_option maxRecDepth 100000 in
set_option maxHeartbeats 4000000 in
theorem r6_int {w : World} {R : Kn} {L : List HP}  (hS : St w R (L)) {a : Int} (ha : -9223372036854775808 ≤ a ∧ a ≤ 9223372036854775807) :
    Fn Try.prog 12 #[.int .i64 a] w (fun v w' => St w' R (Ow 5 (encI .u8) 1 v (ub (turn a).toNat) :: L)) := by
  refine Fn.intro (n := 6) Try.func12 rfl rfl rfl ?_
  refine WR.seq ?_
  refine WR.region rfl ?_
  refine S.assignC rfl ?_
  refine WS.done ?_
  refine WR.seq ?_
  refine WR.region rfl ?_
  refine S.moveT rfl ?_
  refine S.call ent13 rfl (r6_turn hS (by omega)) rfl ?_
  rintro _ w4 ⟨rfl, hS4⟩
  clear hS
  obtain ⟨n4, hn4⟩ := Int.eq_ofNat_of_zero_le (turn_u64 ha).1
  have htf := (turn_u64 ha).2
  refine S.as (d := 4) rfl (congrArg (Value.int .u64) hn4) ?_
  refine S.call ent8 rfl (r6_uint hS4 (by omega)) rfl ?_
  rintro v5 w5 hS5
  clear hS4
  refine S.assignT rfl ?_
  refine WS.done ?_
  refine WR.ret (ret1 rfl rfl ?_)
  rw [hn4, Int.toNat_natCast]
  exact hS5

set_option maxRecDepth 100000 in
set_option maxHeartbeats 4000000 in
theorem r6_text {w : World} {R : Kn} {L : List HP}  (hS : St w R (L)) {s : ByteArray} (hs : s.size ≤ 1000000) :
    Fn Try.prog 14 #[.string s] w (fun v w' => St w' R (Ow 5 (encI .u8) 1 v (ub s.size ++ sB s) :: L)) := by
  have hn10 := ub_len10 (n := s.size) (by omega)
  refine Fn.intro (n := 9) Try.func14 rfl rfl rfl ?_
  refine WR.seq ?_
  refine WR.region rfl ?_
  refine S.assignC rfl ?_
  refine WS.done ?_
  refine WR.seq ?_
  refine WR.region rfl ?_
  refine S.moveT rfl ?_
  refine S.lenStr Try.underlying9 rfl rfl ?_
  first
    | refine S.convN Try.underlying3 Try.underlying28 rfl rfl (wrap_u64 (by omega) (by omega)) ?_
    | refine S.conv Try.underlying3 Try.underlying28 rfl rfl ?_
  refine S.call ent8 rfl (r6_uint hS (by omega)) rfl ?_
  rintro v6 w6 hS6
  clear hS
  refine S.moveT rfl ?_
  refine S.appendStr (i := 0) hS6 rfl Try.underlying26 Try.underlying9 ti5 rfl rfl rfl (by omega) rfl ?_
  intro v8 w8 hS8; clear hS6
  refine S.assignT rfl ?_
  refine WS.done ?_
  refine WR.ret (ret1 rfl rfl ?_)
  exact hS8

set_option maxRecDepth 100000 in
set_option maxHeartbeats 4000000 in
theorem r_copyBytes {w : World} {R : Kn} {L : List HP}  (hS : St w R (L)) {v0 : Value} {xs : List Int} (h0 : Ro R (encI .u8) 1 v0 xs) (hm : xs.length ≤ 100000000) :
    Fn Try.prog 21 #[v0] w (fun v w' => St w' R (Ow 5 (encI .u8) 1 v xs :: L)) := by
  refine Fn.intro (n := 6) Try.func21 rfl rfl rfl ?_
  refine WR.seq ?_
  refine WR.region rfl ?_
  refine S.assignC rfl ?_
  refine WS.done ?_
  refine WR.seq ?_
  refine WR.region rfl ?_
  first
    | refine S.buildRow (vs := []) hS Try.underlying26 ti5 rfl rfl rfl rfl rfl rfl rfl ?_
    | refine S.buildRow hS Try.underlying26 ti5 rfl rfl rfl rfl rfl rfl rfl ?_
  intro b3 w3 hS3; clear hS
  have hSo := hS3.ownRow (enc := encI .u8) (n := 1) [] rfl (fun _ h => by cases h) (by simp)
  refine S.moveT rfl ?_
  refine S.appendRo (i := 0) hSo rfl h0 Try.underlying26 ti5 rfl rfl rfl rfl encI_one (by simp; omega) rfl ?_
  intro v5 w5 hS5; clear hSo
  refine S.assignT rfl ?_
  refine WS.done ?_
  refine WR.ret (ret1 rfl rfl ?_)
  exact hS5

set_option maxRecDepth 100000 in
set_option maxHeartbeats 4000000 in
theorem r_sameBytes {w : World} {R : Kn} {L : List HP}  (hS : St w R (L)) {v0 v1 : Value} {xs ys : List Int} (h0 : Ro R (encI .u8) 1 v0 xs) (h1 : Ro R (encI .u8) 1 v1 ys) (hm : xs.length ≤ 100000000) :
    Fn Try.prog 15 #[v0, v1] w (fun v w' => v = .bool (decide (xs = ys)) ∧ St w' R L) := by
  obtain ⟨a0, c0, rfl, hl0⟩ := h0.len
  obtain ⟨a1, c1, rfl, hl1⟩ := h1.len
  refine Fn.intro (n := 26) Try.func15 rfl rfl rfl ?_
  refine WR.seq ?_
  refine WR.region rfl ?_
  refine S.assignC rfl ?_
  refine WS.done ?_
  refine WR.seq ?_
  refine WR.seq ?_
  refine WR.region rfl ?_
  refine S.moveT rfl ?_
  refine S.lenSl Try.underlying26 rfl rfl ?_
  refine S.moveT rfl ?_
  refine S.lenSl Try.underlying26 rfl rfl ?_
  refine S.neq rfl rfl rfl ?_
  refine WS.done ?_
  refine WR.condD rfl (fun c10 => ?_) (fun c10 => ?_)
  ·
    skip
    refine WR.seq ?_
    refine WR.region rfl ?_
    refine S.assignC rfl ?_
    refine WS.done ?_
    refine WR.ret (ret1 rfl rfl ?_)
    refine ⟨congrArg Value.bool (decide_eq_false ?_).symm, hS⟩
    intro e; rw [e] at c10; exact c10 rfl
  ·
    skip
    refine WR.skip ?_
    refine WR.seq ?_
    refine WR.seq ?_
    refine WR.region rfl ?_
    refine S.assignC rfl ?_
    refine WS.done ?_
    refine WR.block ?_
    refine WR.loopE (fun rq mm rr wr => ∃ (i : Nat), mm = xs.length - i ∧ (i ≤ xs.length ∧ xs.take i = ys.take i) ∧ rr 5 = .int .i64 (i : Int) ∧ Agr [0, 1] rr rq ∧ St wr R L) ⟨0, rfl, (by exact ⟨by omega, by simp⟩), rfl, ⟨rfl, rfl, trivial⟩, hS⟩ ?_
    rintro mm rr w1001 ⟨i, hm1001, ⟨hi, hit⟩, hr1001_5, hA1001, hS1001⟩
    obtain ⟨rr, rfl⟩ := agrBack hA1001
    clear hA1001
    obtain ⟨rr, rfl⟩ := back1 (r := rr) hr1001_5
    clear hr1001_5
    have hlen : xs.length = ys.length := by omega
    refine WR.seq ?_
    refine WR.seq ?_
    refine WR.region rfl ?_
    refine S.moveT rfl ?_
    refine S.moveT rfl ?_
    refine S.lenSl Try.underlying26 rfl rfl ?_
    refine S.lss rfl rfl rfl ?_
    refine WS.done ?_
    refine WR.condD rfl (fun c14 => ?_) (fun c14 => ?_)
    ·
      skip
      refine WR.skip ?_
      refine WR.seq ?_
      refine WR.block ?_
      refine WR.seq ?_
      refine WR.regionQ mixed hS1001 (by kernel_rfl) rfl ?_
      refine Q.moveT rfl ?_
      refine Q.moveT rfl ?_
      refine Q.indexRo h0 Try.underlying26 ti5 rfl rfl (by omega) rfl ?_
      intro ad19 u19 hu19 hl19 hc19
      refine Q.loadRo hc19 rfl Try.underlying5 rfl rfl rfl ?_
      refine Q.moveT rfl ?_
      refine Q.moveT rfl ?_
      refine Q.indexRo h1 Try.underlying26 ti5 rfl rfl (by omega) rfl ?_
      intro ad23 u23 hu23 hl23 hc23
      refine Q.loadRo hc23 rfl Try.underlying5 rfl rfl rfl ?_
      refine Q.neq rfl rfl rfl ?_
      refine WQ.done ?_
      intro w5001 hS5001
      clear hS1001
      refine WR.condD rfl (fun c25 => ?_) (fun c25 => ?_)
      ·
        skip
        refine WR.seq ?_
        refine WR.region rfl ?_
        refine S.assignC rfl ?_
        refine WS.done ?_
        refine WR.ret (ret1 rfl rfl ?_)
        refine ⟨congrArg Value.bool (decide_eq_false ?_).symm, hS5001⟩
        intro e; subst e; rw [hu19] at hu23; exact c25 (Option.some.inj hu23)
      ·
        skip
        refine WR.skip ?_
        refine WR.region rfl ?_
        refine S.moveT rfl ?_
        first
          | refine S.addN rfl rfl rfl (by omega) ?_
          | refine S.add rfl rfl rfl ?_
        refine S.assignT rfl ?_
        refine WS.done ?_
        exact ⟨_, (by omega), ⟨i + 1, rfl, (by exact ⟨by omega, take_both _ _ i _ hit (by rw [Int.toNat_natCast] at hu19; exact hu19) (by rw [Int.toNat_natCast] at hu23; rw [Decidable.not_not.1 c25]; exact hu23)⟩), rfl, ⟨rfl, rfl, trivial⟩, hS5001⟩⟩
    ·
      skip
      refine WR.exit ?_
      refine WR.seq ?_
      refine WR.region rfl ?_
      refine S.assignC rfl ?_
      refine WS.done ?_
      refine WR.ret (ret1 rfl rfl ?_)
      refine ⟨congrArg Value.bool (decide_eq_true ?_).symm, hS1001⟩
      rw [List.take_of_length_le (by omega), List.take_of_length_le (by omega)] at hit; exact hit


end Go.Proofs.Ytfajmfdoemjacaa.B

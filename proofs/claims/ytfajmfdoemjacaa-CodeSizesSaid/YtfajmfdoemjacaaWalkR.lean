import Derived.Test.YtfajmfdoemjacaaWalkW
namespace Go.Proofs.Ytfajmfdoemjacaa.B
open Go.Proofs Go.RowKit
set_option linter.unusedVariables false
set_option linter.unusedSimpArgs false
set_option maxRecDepth 100000 in
set_option maxHeartbeats 4000000 in
theorem c_new {w : World} {R : Kn} {L : List HP}  (hS : St w R (L)) {v0 : Value} {xs : List Int} (h0 : Ro R (encI .u8) 1 v0 xs) :
    Fn Try.prog 20 #[v0] w (fun v w' => ∃ b, v = .pointer (some ⟨b, 0, none⟩) ∧ St w' R (blk b (.cells (#[v0, .int .i64 0]) 55 (0, 0)) :: L)) := by
  obtain ⟨a0, c0, rfl, hl0⟩ := h0.len
  refine Fn.intro (n := 6) Try.func20 rfl rfl rfl ?_
  refine WR.seq ?_
  refine WR.region rfl ?_
  refine S.assignC rfl ?_
  refine WS.done ?_
  refine WR.seq ?_
  refine WR.region rfl ?_
  refine S.moveT rfl ?_
  refine S.buildK (v := .agg #[.slice a0 xs.length c0, .int .i64 0]) rfl (by kernel_rfl) rfl ?_
  refine S.box hS rfl rfl rfl ?_
  intro b5 w5 hS5; clear hS
  refine S.assignT rfl ?_
  refine WS.done ?_
  refine WR.ret (ret1 rfl rfl ?_)
  exact ⟨_, rfl, hS5⟩

set_option maxRecDepth 100000 in
set_option maxHeartbeats 4000000 in
theorem c_number {w : World} {R : Kn} {L : List HP}  (hS : St w R (L)) {v0 : Value} {xs : List Int} (h0 : Ro R (encI .u8) 1 v0 xs) (hb : (∀ x ∈ xs, 0 ≤ x ∧ x < 256)) (hm : xs.length ≤ 100000000) :
    Fn Try.prog 30 #[v0] w (fun v w' => ∃ vr, v = .tuple #[.int .u64 (pn 0 xs).1, vr, .int .i64 (pn 0 xs).2.2] ∧ Ro R (encI .u8) 1 vr (pn 0 xs).2.1 ∧ St w' R L) := by
  obtain ⟨a0, c0, rfl, hl0⟩ := h0.len
  refine Fn.intro (n := 46) Try.func30 rfl rfl rfl ?_
  refine WR.seq ?_
  refine WR.region rfl ?_
  refine S.assignC rfl ?_
  refine S.assignC rfl ?_
  refine S.assignC rfl ?_
  refine WS.done ?_
  refine WR.seq ?_
  refine WR.region rfl ?_
  refine S.assignC rfl ?_
  refine WS.done ?_
  refine WR.seq ?_
  refine WR.seq ?_
  refine WR.region rfl ?_
  refine S.moveT rfl ?_
  refine S.lenSl Try.underlying26 rfl rfl ?_
  refine S.moveC rfl ?_
  refine WS.done ?_
  refine WR.block ?_
  refine WR.loopE (fun rq mm rr wr => ∃ (i : Nat) (a : Int), mm = xs.length - i ∧ (i ≤ xs.length ∧ i ≤ 9 ∧ (0 ≤ a ∧ a < 2 ^ (7 * i)) ∧ comb a i (pn i (xs.drop i)) = pn 0 xs) ∧ rr 5 = .int .u64 a ∧ rr 10 = .int .i64 (i : Int) ∧ Agr [0, 8, 9] rr rq ∧ St wr R L) ⟨0, 0, rfl, (by exact ⟨by omega, by omega, by decide, comb_zero _ (pn_err xs 0)⟩), rfl, rfl, ⟨rfl, rfl, rfl, trivial⟩, hS⟩ ?_
  rintro mm rr w1001 ⟨i, a, hm1001, ⟨hi, hi9, ha, hpn⟩, hr1001_5, hr1001_10, hA1001, hS1001⟩
  obtain ⟨rr, rfl⟩ := agrBack hA1001
  clear hA1001
  obtain ⟨rr, rfl⟩ := back2 (r := rr) hr1001_5 hr1001_10
  clear hr1001_5 hr1001_10
  refine WR.seq ?_
  refine WR.region rfl ?_
  refine S.lss rfl rfl rfl ?_
  refine WS.done ?_
  refine WR.seq ?_
  refine WR.condD rfl (fun c11 => ?_) (fun c11 => ?_)
  ·
    skip
    refine WR.skip ?_
    refine WR.seq ?_
    refine WR.block ?_
    refine WR.seq ?_
    refine WR.region rfl ?_
    refine S.moveT rfl ?_
    refine S.indexRo h0 Try.underlying26 ti5 rfl rfl (by omega) rfl ?_
    intro ad13 u13 hu13 hl13 hc13
    refine S.loadRo hS1001 hc13 rfl Try.underlying5 rfl rfl rfl ?_
    have hu := hb u13 (List.mem_of_getElem? hu13)
    have hdr := List.drop_eq_getElem_cons (l := xs) (i := i) (by omega)
    rw [show xs[i] = u13 from getI2 hu13] at hdr
    rw [hdr] at hpn
    have hp0 : (0 : Int) < 2 ^ (7 * i) := Int.pow_pos (by decide)
    refine S.assignT rfl ?_
    refine S.assignT rfl ?_
    refine WS.done ?_
    refine WR.seq ?_
    refine WR.seq ?_
    refine WR.region rfl ?_
    refine S.moveT rfl ?_
    refine S.eql rfl rfl rfl ?_
    refine S.moveT rfl ?_
    refine S.splitD (d := 17) rfl (fun c17 => ?_) (fun c17 => ?_)
    ·
      skip
      refine S.moveT rfl ?_
      refine S.gtr rfl rfl rfl ?_
      refine S.pickT rfl rfl ?_
      refine S.moveT rfl ?_
      refine S.splitD (d := 21) rfl (fun c21 => ?_) (fun c21 => ?_)
      ·
        skip
        refine S.off rfl ?_
        refine S.off rfl ?_
        refine S.off rfl ?_
        refine S.off rfl ?_
        refine S.off rfl ?_
        refine S.off rfl ?_
        refine S.pickTC rfl rfl ?_
        refine WS.done ?_
        refine WR.condT rfl ?_
        refine WR.seq ?_
        refine WR.region rfl ?_
        refine S.assignC rfl ?_
        refine S.assignC rfl ?_
        refine S.assignC rfl ?_
        refine WS.done ?_
        refine WR.ret (ret3 rfl rfl rfl rfl ?_)
        first | (rw [pn_bad (by omega)] at hpn; rw [← hpn]; exact ⟨_, rfl, Ro.nil, hS1001⟩) | (rw [pn_last hbad c39] at hpn; rw [← hpn]; exact ⟨_, tup3 (congrArg (Value.int .u64) (by show _ = a + 2 ^ (7 * i) * u13; rw [show u13 % 128 = u13 by omega])), hro44, hS1001⟩) | (rw [List.drop_eq_nil_of_le (by omega)] at hpn; rw [← hpn]; exact ⟨_, rfl, Ro.nil, hS1001⟩)
      ·
        skip
        refine S.moveT rfl ?_
        refine S.gtr rfl rfl rfl ?_
        refine S.moveT rfl ?_
        refine S.splitD (d := 24) rfl (fun c24 => ?_) (fun c24 => ?_)
        ·
          skip
          refine S.moveT rfl ?_
          refine S.eql rfl rfl rfl ?_
          refine S.pickT rfl rfl ?_
          refine S.pickF rfl rfl ?_
          refine WS.done ?_
          refine WR.condD rfl (fun c28 => ?_) (fun c28 => ?_)
          ·
            skip
            refine WR.seq ?_
            refine WR.region rfl ?_
            refine S.assignC rfl ?_
            refine S.assignC rfl ?_
            refine S.assignC rfl ?_
            refine WS.done ?_
            refine WR.ret (ret3 rfl rfl rfl rfl ?_)
            first | (rw [pn_bad (by omega)] at hpn; rw [← hpn]; exact ⟨_, rfl, Ro.nil, hS1001⟩) | (rw [pn_last hbad c39] at hpn; rw [← hpn]; exact ⟨_, tup3 (congrArg (Value.int .u64) (by show _ = a + 2 ^ (7 * i) * u13; rw [show u13 % 128 = u13 by omega])), hro44, hS1001⟩) | (rw [List.drop_eq_nil_of_le (by omega)] at hpn; rw [← hpn]; exact ⟨_, rfl, Ro.nil, hS1001⟩)
          ·
            skip
            refine WR.skip ?_
            refine WR.seq ?_
            refine WR.region rfl ?_
            have hbad : ¬ ((i = 9 ∧ 1 < u13) ∨ (0 < i ∧ u13 = 0)) := by omega
            have hmod : 0 ≤ u13 % 128 ∧ u13 % 128 < 128 := by omega
            have hput := put_lt (a := a) (y := u13 % 128) (k := i) hi9 ha.2 hmod.1 hmod.2 (fun h => by omega)
            have hnx := put_next (a := a) (y := u13 % 128) (k := i) ha.2 hmod.1 hmod.2
            have hpos := Int.mul_nonneg (Int.le_of_lt hp0) hmod.1
            refine S.moveT rfl ?_
            refine S.moveT rfl ?_
            refine S.andNot rfl rfl rfl ?_
            refine S.as (d := 31) rfl (congrArg (Value.int .u8) (andNot_128 hu)) ?_
            first
              | refine S.convN Try.underlying5 Try.underlying28 rfl rfl (wrap_u64 (by omega) (by omega)) ?_
              | refine S.conv Try.underlying5 Try.underlying28 rfl rfl ?_
            refine S.moveT rfl ?_
            first
              | refine S.mulN rfl rfl rfl (by omega) ?_
              | refine S.mul rfl rfl rfl ?_
            refine S.shl rfl rfl (by omega) rfl ?_
            refine S.or rfl rfl rfl ?_
            refine S.as (d := 36) rfl (congrArg (Value.int .u64) (or_put hi9 ha.1 ha.2 hmod.1 hput)) ?_
            refine S.assignT rfl ?_
            refine WS.done ?_
            refine WR.seq ?_
            refine WR.region rfl ?_
            refine S.moveT rfl ?_
            refine S.and rfl rfl rfl ?_
            refine S.as (d := 38) rfl (congrArg (Value.int .u8) (and_128 hu)) ?_
            refine S.eql rfl rfl rfl ?_
            refine S.as (d := 39) (v' := .bool (decide (u13 < 128))) rfl (congrArg Value.bool (decide_eq_decide.2 (and_zero u13))) ?_
            refine WS.done ?_
            refine WR.condD rfl (fun c39 => ?_) (fun c39 => ?_)
            ·
              skip
              refine WR.seq ?_
              refine WR.regionQ mixed hS1001 (by kernel_rfl) rfl ?_
              refine Q.moveT rfl ?_
              refine Q.moveT rfl ?_
              refine Q.moveT rfl ?_
              first
                | refine Q.addN rfl rfl rfl (by omega) ?_
                | refine Q.add rfl rfl rfl ?_
              refine Q.sliceLo (i + 1) h0 Try.underlying26 ti5 rfl rfl (by omega) (by omega) rfl ?_
              intro a44 cc44 hro44
              refine Q.assignT rfl ?_
              refine Q.assignT rfl ?_
              refine Q.assignC rfl ?_
              refine WQ.done ?_
              intro w5001 hS5001
              clear hS1001
              refine WR.ret (ret3 rfl rfl rfl rfl ?_)
              first | (rw [pn_bad (by omega)] at hpn; rw [← hpn]; exact ⟨_, rfl, Ro.nil, hS5001⟩) | (rw [pn_last hbad c39] at hpn; rw [← hpn]; exact ⟨_, tup3 (congrArg (Value.int .u64) (by show _ = a + 2 ^ (7 * i) * u13; rw [show u13 % 128 = u13 by omega])), hro44, hS5001⟩) | (rw [List.drop_eq_nil_of_le (by omega)] at hpn; rw [← hpn]; exact ⟨_, rfl, Ro.nil, hS5001⟩)
            ·
              skip
              refine WR.skip ?_
              refine WR.region rfl ?_
              first
                | refine S.addN rfl rfl rfl (by omega) ?_
                | refine S.add rfl rfl rfl ?_
              refine S.moveT rfl ?_
              refine WS.done ?_
              exact ⟨_, (by omega), ⟨i + 1, _, rfl, (by exact ⟨by omega, by omega, ⟨by omega, hnx⟩, by rw [← hpn, pn_more hbad c39, show u13 - 128 = u13 % 128 by omega]⟩), rfl, rfl, ⟨rfl, rfl, rfl, trivial⟩, hS1001⟩⟩
        ·
          skip
          refine S.off rfl ?_
          refine S.off rfl ?_
          refine S.pickFC rfl rfl ?_
          refine S.pickF rfl rfl ?_
          refine WS.done ?_
          refine WR.condF rfl ?_
          refine WR.skip ?_
          refine WR.seq ?_
          refine WR.region rfl ?_
          have hbad : ¬ ((i = 9 ∧ 1 < u13) ∨ (0 < i ∧ u13 = 0)) := by omega
          have hmod : 0 ≤ u13 % 128 ∧ u13 % 128 < 128 := by omega
          have hput := put_lt (a := a) (y := u13 % 128) (k := i) hi9 ha.2 hmod.1 hmod.2 (fun h => by omega)
          have hnx := put_next (a := a) (y := u13 % 128) (k := i) ha.2 hmod.1 hmod.2
          have hpos := Int.mul_nonneg (Int.le_of_lt hp0) hmod.1
          refine S.moveT rfl ?_
          refine S.moveT rfl ?_
          refine S.andNot rfl rfl rfl ?_
          refine S.as (d := 31) rfl (congrArg (Value.int .u8) (andNot_128 hu)) ?_
          first
            | refine S.convN Try.underlying5 Try.underlying28 rfl rfl (wrap_u64 (by omega) (by omega)) ?_
            | refine S.conv Try.underlying5 Try.underlying28 rfl rfl ?_
          refine S.moveT rfl ?_
          first
            | refine S.mulN rfl rfl rfl (by omega) ?_
            | refine S.mul rfl rfl rfl ?_
          refine S.shl rfl rfl (by omega) rfl ?_
          refine S.or rfl rfl rfl ?_
          refine S.as (d := 36) rfl (congrArg (Value.int .u64) (or_put hi9 ha.1 ha.2 hmod.1 hput)) ?_
          refine S.assignT rfl ?_
          refine WS.done ?_
          refine WR.seq ?_
          refine WR.region rfl ?_
          refine S.moveT rfl ?_
          refine S.and rfl rfl rfl ?_
          refine S.as (d := 38) rfl (congrArg (Value.int .u8) (and_128 hu)) ?_
          refine S.eql rfl rfl rfl ?_
          refine S.as (d := 39) (v' := .bool (decide (u13 < 128))) rfl (congrArg Value.bool (decide_eq_decide.2 (and_zero u13))) ?_
          refine WS.done ?_
          refine WR.condD rfl (fun c39 => ?_) (fun c39 => ?_)
          ·
            skip
            refine WR.seq ?_
            refine WR.regionQ mixed hS1001 (by kernel_rfl) rfl ?_
            refine Q.moveT rfl ?_
            refine Q.moveT rfl ?_
            refine Q.moveT rfl ?_
            first
              | refine Q.addN rfl rfl rfl (by omega) ?_
              | refine Q.add rfl rfl rfl ?_
            refine Q.sliceLo (i + 1) h0 Try.underlying26 ti5 rfl rfl (by omega) (by omega) rfl ?_
            intro a44 cc44 hro44
            refine Q.assignT rfl ?_
            refine Q.assignT rfl ?_
            refine Q.assignC rfl ?_
            refine WQ.done ?_
            intro w5002 hS5002
            clear hS1001
            refine WR.ret (ret3 rfl rfl rfl rfl ?_)
            first | (rw [pn_bad (by omega)] at hpn; rw [← hpn]; exact ⟨_, rfl, Ro.nil, hS5002⟩) | (rw [pn_last hbad c39] at hpn; rw [← hpn]; exact ⟨_, tup3 (congrArg (Value.int .u64) (by show _ = a + 2 ^ (7 * i) * u13; rw [show u13 % 128 = u13 by omega])), hro44, hS5002⟩) | (rw [List.drop_eq_nil_of_le (by omega)] at hpn; rw [← hpn]; exact ⟨_, rfl, Ro.nil, hS5002⟩)
          ·
            skip
            refine WR.skip ?_
            refine WR.region rfl ?_
            first
              | refine S.addN rfl rfl rfl (by omega) ?_
              | refine S.add rfl rfl rfl ?_
            refine S.moveT rfl ?_
            refine WS.done ?_
            exact ⟨_, (by omega), ⟨i + 1, _, rfl, (by exact ⟨by omega, by omega, ⟨by omega, hnx⟩, by rw [← hpn, pn_more hbad c39, show u13 - 128 = u13 % 128 by omega]⟩), rfl, rfl, ⟨rfl, rfl, rfl, trivial⟩, hS1001⟩⟩
    ·
      skip
      refine S.off rfl ?_
      refine S.off rfl ?_
      refine S.pickFC rfl rfl ?_
      refine S.moveT rfl ?_
      refine S.moveT rfl ?_
      refine S.gtr rfl rfl rfl ?_
      refine S.moveT rfl ?_
      refine S.splitD (d := 24) rfl (fun c24 => ?_) (fun c24 => ?_)
      ·
        skip
        refine S.moveT rfl ?_
        refine S.eql rfl rfl rfl ?_
        refine S.pickT rfl rfl ?_
        refine S.pickF rfl rfl ?_
        refine WS.done ?_
        refine WR.condD rfl (fun c28 => ?_) (fun c28 => ?_)
        ·
          skip
          refine WR.seq ?_
          refine WR.region rfl ?_
          refine S.assignC rfl ?_
          refine S.assignC rfl ?_
          refine S.assignC rfl ?_
          refine WS.done ?_
          refine WR.ret (ret3 rfl rfl rfl rfl ?_)
          first | (rw [pn_bad (by omega)] at hpn; rw [← hpn]; exact ⟨_, rfl, Ro.nil, hS1001⟩) | (rw [pn_last hbad c39] at hpn; rw [← hpn]; exact ⟨_, tup3 (congrArg (Value.int .u64) (by show _ = a + 2 ^ (7 * i) * u13; rw [show u13 % 128 = u13 by omega])), hro44, hS1001⟩) | (rw [List.drop_eq_nil_of_le (by omega)] at hpn; rw [← hpn]; exact ⟨_, rfl, Ro.nil, hS1001⟩)
        ·
          skip
          refine WR.skip ?_
          refine WR.seq ?_
          refine WR.region rfl ?_
          have hbad : ¬ ((i = 9 ∧ 1 < u13) ∨ (0 < i ∧ u13 = 0)) := by omega
          have hmod : 0 ≤ u13 % 128 ∧ u13 % 128 < 128 := by omega
          have hput := put_lt (a := a) (y := u13 % 128) (k := i) hi9 ha.2 hmod.1 hmod.2 (fun h => by omega)
          have hnx := put_next (a := a) (y := u13 % 128) (k := i) ha.2 hmod.1 hmod.2
          have hpos := Int.mul_nonneg (Int.le_of_lt hp0) hmod.1
          refine S.moveT rfl ?_
          refine S.moveT rfl ?_
          refine S.andNot rfl rfl rfl ?_
          refine S.as (d := 31) rfl (congrArg (Value.int .u8) (andNot_128 hu)) ?_
          first
            | refine S.convN Try.underlying5 Try.underlying28 rfl rfl (wrap_u64 (by omega) (by omega)) ?_
            | refine S.conv Try.underlying5 Try.underlying28 rfl rfl ?_
          refine S.moveT rfl ?_
          first
            | refine S.mulN rfl rfl rfl (by omega) ?_
            | refine S.mul rfl rfl rfl ?_
          refine S.shl rfl rfl (by omega) rfl ?_
          refine S.or rfl rfl rfl ?_
          refine S.as (d := 36) rfl (congrArg (Value.int .u64) (or_put hi9 ha.1 ha.2 hmod.1 hput)) ?_
          refine S.assignT rfl ?_
          refine WS.done ?_
          refine WR.seq ?_
          refine WR.region rfl ?_
          refine S.moveT rfl ?_
          refine S.and rfl rfl rfl ?_
          refine S.as (d := 38) rfl (congrArg (Value.int .u8) (and_128 hu)) ?_
          refine S.eql rfl rfl rfl ?_
          refine S.as (d := 39) (v' := .bool (decide (u13 < 128))) rfl (congrArg Value.bool (decide_eq_decide.2 (and_zero u13))) ?_
          refine WS.done ?_
          refine WR.condD rfl (fun c39 => ?_) (fun c39 => ?_)
          ·
            skip
            refine WR.seq ?_
            refine WR.regionQ mixed hS1001 (by kernel_rfl) rfl ?_
            refine Q.moveT rfl ?_
            refine Q.moveT rfl ?_
            refine Q.moveT rfl ?_
            first
              | refine Q.addN rfl rfl rfl (by omega) ?_
              | refine Q.add rfl rfl rfl ?_
            refine Q.sliceLo (i + 1) h0 Try.underlying26 ti5 rfl rfl (by omega) (by omega) rfl ?_
            intro a44 cc44 hro44
            refine Q.assignT rfl ?_
            refine Q.assignT rfl ?_
            refine Q.assignC rfl ?_
            refine WQ.done ?_
            intro w5003 hS5003
            clear hS1001
            refine WR.ret (ret3 rfl rfl rfl rfl ?_)
            first | (rw [pn_bad (by omega)] at hpn; rw [← hpn]; exact ⟨_, rfl, Ro.nil, hS5003⟩) | (rw [pn_last hbad c39] at hpn; rw [← hpn]; exact ⟨_, tup3 (congrArg (Value.int .u64) (by show _ = a + 2 ^ (7 * i) * u13; rw [show u13 % 128 = u13 by omega])), hro44, hS5003⟩) | (rw [List.drop_eq_nil_of_le (by omega)] at hpn; rw [← hpn]; exact ⟨_, rfl, Ro.nil, hS5003⟩)
          ·
            skip
            refine WR.skip ?_
            refine WR.region rfl ?_
            first
              | refine S.addN rfl rfl rfl (by omega) ?_
              | refine S.add rfl rfl rfl ?_
            refine S.moveT rfl ?_
            refine WS.done ?_
            exact ⟨_, (by omega), ⟨i + 1, _, rfl, (by exact ⟨by omega, by omega, ⟨by omega, hnx⟩, by rw [← hpn, pn_more hbad c39, show u13 - 128 = u13 % 128 by omega]⟩), rfl, rfl, ⟨rfl, rfl, rfl, trivial⟩, hS1001⟩⟩
      ·
        skip
        refine S.off rfl ?_
        refine S.off rfl ?_
        refine S.pickFC rfl rfl ?_
        refine S.pickF rfl rfl ?_
        refine WS.done ?_
        refine WR.condF rfl ?_
        refine WR.skip ?_
        refine WR.seq ?_
        refine WR.region rfl ?_
        have hbad : ¬ ((i = 9 ∧ 1 < u13) ∨ (0 < i ∧ u13 = 0)) := by omega
        have hmod : 0 ≤ u13 % 128 ∧ u13 % 128 < 128 := by omega
        have hput := put_lt (a := a) (y := u13 % 128) (k := i) hi9 ha.2 hmod.1 hmod.2 (fun h => by omega)
        have hnx := put_next (a := a) (y := u13 % 128) (k := i) ha.2 hmod.1 hmod.2
        have hpos := Int.mul_nonneg (Int.le_of_lt hp0) hmod.1
        refine S.moveT rfl ?_
        refine S.moveT rfl ?_
        refine S.andNot rfl rfl rfl ?_
        refine S.as (d := 31) rfl (congrArg (Value.int .u8) (andNot_128 hu)) ?_
        first
          | refine S.convN Try.underlying5 Try.underlying28 rfl rfl (wrap_u64 (by omega) (by omega)) ?_
          | refine S.conv Try.underlying5 Try.underlying28 rfl rfl ?_
        refine S.moveT rfl ?_
        first
          | refine S.mulN rfl rfl rfl (by omega) ?_
          | refine S.mul rfl rfl rfl ?_
        refine S.shl rfl rfl (by omega) rfl ?_
        refine S.or rfl rfl rfl ?_
        refine S.as (d := 36) rfl (congrArg (Value.int .u64) (or_put hi9 ha.1 ha.2 hmod.1 hput)) ?_
        refine S.assignT rfl ?_
        refine WS.done ?_
        refine WR.seq ?_
        refine WR.region rfl ?_
        refine S.moveT rfl ?_
        refine S.and rfl rfl rfl ?_
        refine S.as (d := 38) rfl (congrArg (Value.int .u8) (and_128 hu)) ?_
        refine S.eql rfl rfl rfl ?_
        refine S.as (d := 39) (v' := .bool (decide (u13 < 128))) rfl (congrArg Value.bool (decide_eq_decide.2 (and_zero u13))) ?_
        refine WS.done ?_
        refine WR.condD rfl (fun c39 => ?_) (fun c39 => ?_)
        ·
          skip
          refine WR.seq ?_
          refine WR.regionQ mixed hS1001 (by kernel_rfl) rfl ?_
          refine Q.moveT rfl ?_
          refine Q.moveT rfl ?_
          refine Q.moveT rfl ?_
          first
            | refine Q.addN rfl rfl rfl (by omega) ?_
            | refine Q.add rfl rfl rfl ?_
          refine Q.sliceLo (i + 1) h0 Try.underlying26 ti5 rfl rfl (by omega) (by omega) rfl ?_
          intro a44 cc44 hro44
          refine Q.assignT rfl ?_
          refine Q.assignT rfl ?_
          refine Q.assignC rfl ?_
          refine WQ.done ?_
          intro w5004 hS5004
          clear hS1001
          refine WR.ret (ret3 rfl rfl rfl rfl ?_)
          first | (rw [pn_bad (by omega)] at hpn; rw [← hpn]; exact ⟨_, rfl, Ro.nil, hS5004⟩) | (rw [pn_last hbad c39] at hpn; rw [← hpn]; exact ⟨_, tup3 (congrArg (Value.int .u64) (by show _ = a + 2 ^ (7 * i) * u13; rw [show u13 % 128 = u13 by omega])), hro44, hS5004⟩) | (rw [List.drop_eq_nil_of_le (by omega)] at hpn; rw [← hpn]; exact ⟨_, rfl, Ro.nil, hS5004⟩)
        ·
          skip
          refine WR.skip ?_
          refine WR.region rfl ?_
          first
            | refine S.addN rfl rfl rfl (by omega) ?_
            | refine S.add rfl rfl rfl ?_
          refine S.moveT rfl ?_
          refine WS.done ?_
          exact ⟨_, (by omega), ⟨i + 1, _, rfl, (by exact ⟨by omega, by omega, ⟨by omega, hnx⟩, by rw [← hpn, pn_more hbad c39, show u13 - 128 = u13 % 128 by omega]⟩), rfl, rfl, ⟨rfl, rfl, rfl, trivial⟩, hS1001⟩⟩
  ·
    skip
    refine WR.exit ?_
    refine WR.seq ?_
    refine WR.region rfl ?_
    refine S.assignC rfl ?_
    refine S.assignC rfl ?_
    refine S.assignC rfl ?_
    refine WS.done ?_
    refine WR.ret (ret3 rfl rfl rfl rfl ?_)
    first | (rw [pn_bad (by omega)] at hpn; rw [← hpn]; exact ⟨_, rfl, Ro.nil, hS1001⟩) | (rw [pn_last hbad c39] at hpn; rw [← hpn]; exact ⟨_, tup3 (congrArg (Value.int .u64) (by show _ = a + 2 ^ (7 * i) * u13; rw [show u13 % 128 = u13 by omega])), hro44, hS1001⟩) | (rw [List.drop_eq_nil_of_le (by omega)] at hpn; rw [← hpn]; exact ⟨_, rfl, Ro.nil, hS1001⟩)

set_option maxRecDepth 100000 in
set_option maxHeartbeats 4000000 in
theorem c_fail {w : World} {R : Kn} {L : List HP} {b : Nat} {v0 : Value} {e : Int} (hS : St w R (blk b (.cells (#[v0, .int .i64 e]) 55 (0, 0)) :: L)) {f : Int} :
    Fn Try.prog 31 #[.pointer (some ⟨b, 0, none⟩), .int .i64 f] w (fun v w' => v = .tuple #[] ∧ St w' R (blk b (.cells (#[v0, .int .i64 f]) 55 (0, 0)) :: L)) := by
  refine Fn.intro (n := 8) Try.func31 rfl rfl rfl ?_
  refine WR.region rfl ?_
  refine S.moveT rfl ?_
  refine S.moveT rfl ?_
  refine S.nilCheck rfl rfl ?_
  refine S.fieldB Try.underlying55 rfl ti42 rfl rfl rfl rfl ?_
  refine S.storeB (i := 0) hS rfl ti42 rfl rfl rfl rfl rfl rfl rfl rfl ?_
  intro w2001 hS2001; clear hS
  refine WS.done ?_
  refine ret0N rfl ?_
  exact ⟨rfl, hS2001⟩

set_option maxRecDepth 100000 in
set_option maxHeartbeats 4000000 in
theorem c_err {w : World} {R : Kn} {L : List HP} {b : Nat} {v0 : Value} {e : Int} (hS : St w R (blk b (.cells (#[v0, .int .i64 e]) 55 (0, 0)) :: L))  :
    Fn Try.prog 22 #[.pointer (some ⟨b, 0, none⟩)] w (fun v w' => v = .int .i64 e ∧ St w' R (blk b (.cells (#[v0, .int .i64 e]) 55 (0, 0)) :: L)) := by
  refine Fn.intro (n := 7) Try.func22 rfl rfl rfl ?_
  refine WR.seq ?_
  refine WR.region rfl ?_
  refine S.assignC rfl ?_
  refine WS.done ?_
  refine WR.seq ?_
  refine WR.region rfl ?_
  refine S.moveT rfl ?_
  refine S.nilCheck rfl rfl ?_
  refine S.fieldB Try.underlying55 rfl ti42 rfl rfl rfl rfl ?_
  refine S.loadB (i := 0) hS rfl Try.underlying42 rfl rfl rfl rfl ?_
  refine S.assignT rfl ?_
  refine WS.done ?_
  refine WR.ret (ret1 rfl rfl ?_)
  exact ⟨rfl, hS⟩

set_option maxRecDepth 100000 in
set_option maxHeartbeats 4000000 in
theorem c_left {w : World} {R : Kn} {L : List HP} {b : Nat} {v0 : Value} {e : Int} (hS : St w R (blk b (.cells (#[v0, .int .i64 e]) 55 (0, 0)) :: L)) {xs : List Int} (h0 : Ro R (encI .u8) 1 v0 xs) :
    Fn Try.prog 27 #[.pointer (some ⟨b, 0, none⟩)] w (fun v w' => v = .int .i64 xs.length ∧ St w' R (blk b (.cells (#[v0, .int .i64 e]) 55 (0, 0)) :: L)) := by
  obtain ⟨a0, c0, rfl, hl0⟩ := h0.len
  refine Fn.intro (n := 8) Try.func27 rfl rfl rfl ?_
  refine WR.seq ?_
  refine WR.region rfl ?_
  refine S.assignC rfl ?_
  refine WS.done ?_
  refine WR.seq ?_
  refine WR.region rfl ?_
  refine S.moveT rfl ?_
  refine S.nilCheck rfl rfl ?_
  refine S.fieldB Try.underlying55 rfl ti26 rfl rfl rfl rfl ?_
  refine S.loadB (i := 0) hS rfl Try.underlying26 rfl rfl rfl rfl ?_
  refine S.lenSl Try.underlying26 rfl rfl ?_
  refine S.assignT rfl ?_
  refine WS.done ?_
  refine WR.ret (ret1 rfl rfl ?_)
  exact ⟨rfl, hS⟩

set_option maxRecDepth 100000 in
set_option maxHeartbeats 4000000 in
theorem c_rUint {w : World} {R : Kn} {L : List HP} {b : Nat} {v0 : Value} {e : Int} (hS : St w R (blk b (.cells (#[v0, .int .i64 e]) 55 (0, 0)) :: L)) {xs : List Int} (h0 : Ro R (encI .u8) 1 v0 xs) (hb : (∀ x ∈ xs, 0 ≤ x ∧ x < 256)) (hm : xs.length ≤ 100000000) :
    Fn Try.prog 23 #[.pointer (some ⟨b, 0, none⟩)] w (fun v w' => ∃ v1, v = .int .u64 (rdU xs e).1 ∧ Ro R (encI .u8) 1 v1 (rdU xs e).2.1 ∧ St w' R (blk b (.cells (#[v1, .int .i64 (rdU xs e).2.2]) 55 (0, 0)) :: L)) := by
  obtain ⟨a0, c0, rfl, hl0⟩ := h0.len
  refine Fn.intro (n := 30) Try.func23 rfl rfl rfl ?_
  refine WR.seq ?_
  refine WR.region rfl ?_
  refine S.assignC rfl ?_
  refine WS.done ?_
  refine WR.seq ?_
  refine WR.seq ?_
  refine WR.region rfl ?_
  refine S.moveT rfl ?_
  refine S.nilCheck rfl rfl ?_
  refine S.fieldB Try.underlying55 rfl ti42 rfl rfl rfl rfl ?_
  refine S.loadB (i := 0) hS rfl Try.underlying42 rfl rfl rfl rfl ?_
  refine S.neq rfl rfl rfl ?_
  refine WS.done ?_
  refine WR.condD rfl (fun c10 => ?_) (fun c10 => ?_)
  ·
    skip
    refine WR.seq ?_
    refine WR.region rfl ?_
    refine S.assignC rfl ?_
    refine WS.done ?_
    refine WR.ret (ret1 rfl rfl ?_)
    rw [rdU_err c10]
    exact ⟨_, rfl, h0, hS⟩
  ·
    skip
    refine WR.skip ?_
    refine WR.seq ?_
    refine WR.region rfl ?_
    refine S.moveT rfl ?_
    refine S.nilCheck rfl rfl ?_
    refine S.fieldB Try.underlying55 rfl ti26 rfl rfl rfl rfl ?_
    refine S.loadB (i := 0) hS rfl Try.underlying26 rfl rfl rfl rfl ?_
    refine S.call ent30 rfl (c_number hS (by exact h0) (by exact hb) (by exact hm)) rfl ?_
    rintro _ w16 ⟨vr16, rfl, hro16, hS16⟩
    clear hS
    obtain ⟨a16, d16, rfl, hl16⟩ := hro16.len
    refine S.moveT rfl ?_
    refine S.extract rfl rfl rfl ?_
    refine S.extract rfl rfl rfl ?_
    refine S.extract rfl rfl rfl ?_
    refine S.assignT rfl ?_
    refine S.assignT rfl ?_
    refine S.assignT rfl ?_
    refine WS.done ?_
    refine WR.seq ?_
    refine WR.seq ?_
    refine WR.region rfl ?_
    refine S.moveT rfl ?_
    refine S.neq rfl rfl rfl ?_
    refine WS.done ?_
    refine WR.condD rfl (fun c21 => ?_) (fun c21 => ?_)
    ·
      skip
      refine WR.seq ?_
      refine WR.region rfl ?_
      refine S.moveT rfl ?_
      refine S.moveT rfl ?_
      refine S.call ent31 rfl (c_fail hS16 ) rfl ?_
      rintro _ w24 ⟨rfl, hS24⟩
      clear hS16
      refine WS.done ?_
      refine WR.seq ?_
      refine WR.region rfl ?_
      refine S.assignC rfl ?_
      refine WS.done ?_
      refine WR.ret (ret1 rfl rfl ?_)
      obtain rfl : e = 0 := by omega
      rw [rdU_bad c21]
      exact ⟨_, rfl, h0, hS24⟩
    ·
      skip
      refine WR.skip ?_
      refine WR.seq ?_
      refine WR.region rfl ?_
      refine S.moveT rfl ?_
      refine S.moveT rfl ?_
      refine S.nilCheck rfl rfl ?_
      refine S.fieldB Try.underlying55 rfl ti26 rfl rfl rfl rfl ?_
      refine S.storeB (i := 0) hS16 rfl ti26 rfl rfl rfl rfl rfl rfl rfl rfl ?_
      intro w2001 hS2001; clear hS16
      refine WS.done ?_
      refine WR.seq ?_
      refine WR.region rfl ?_
      refine S.moveT rfl ?_
      refine S.assignT rfl ?_
      refine WS.done ?_
      refine WR.ret (ret1 rfl rfl ?_)
      obtain rfl : e = 0 := by omega
      have hz : (pn 0 xs).2.2 = 0 := by omega
      rw [rdU_ok hz]
      rw [← hz] at hS2001
      exact ⟨_, rfl, hro16, by rw [hz] at hS2001 ⊢; exact hS2001⟩

set_option maxRecDepth 100000 in
set_option maxHeartbeats 4000000 in
theorem c_rInt {w : World} {R : Kn} {L : List HP} {b : Nat} {v0 : Value} {e : Int} (hS : St w R (blk b (.cells (#[v0, .int .i64 e]) 55 (0, 0)) :: L)) {xs : List Int} (h0 : Ro R (encI .u8) 1 v0 xs) (hb : (∀ x ∈ xs, 0 ≤ x ∧ x < 256)) (hm : xs.length ≤ 100000000) :
    Fn Try.prog 25 #[.pointer (some ⟨b, 0, none⟩)] w (fun v w' => ∃ v1, v = .int .i64 (unturn (rdU xs e).1) ∧ Ro R (encI .u8) 1 v1 (rdU xs e).2.1 ∧ St w' R (blk b (.cells (#[v1, .int .i64 (rdU xs e).2.2]) 55 (0, 0)) :: L)) := by
  obtain ⟨a0, c0, rfl, hl0⟩ := h0.len
  refine Fn.intro (n := 6) Try.func25 rfl rfl rfl ?_
  refine WR.seq ?_
  refine WR.region rfl ?_
  refine S.assignC rfl ?_
  refine WS.done ?_
  refine WR.seq ?_
  refine WR.region rfl ?_
  refine S.moveT rfl ?_
  refine S.call ent23 rfl (c_rUint hS (by exact h0) (by exact hb) (by exact hm)) rfl ?_
  rintro _ w4 ⟨vs4, rfl, hro4, hS4⟩
  clear hS
  refine S.call ent9 rfl (c_unturn hS4 (by exact rdU_u64 hb)) rfl ?_
  rintro _ w5 ⟨rfl, hS5⟩
  clear hS4
  refine S.assignT rfl ?_
  refine WS.done ?_
  refine WR.ret (ret1 rfl rfl ?_)
  exact ⟨_, rfl, hro4, hS5⟩

set_option maxRecDepth 100000 in
set_option maxHeartbeats 4000000 in
theorem c_rCount {w : World} {R : Kn} {L : List HP} {b : Nat} {v0 : Value} {e : Int} (hS : St w R (blk b (.cells (#[v0, .int .i64 e]) 55 (0, 0)) :: L)) {xs : List Int} (h0 : Ro R (encI .u8) 1 v0 xs) (hb : (∀ x ∈ xs, 0 ≤ x ∧ x < 256)) (hm : xs.length ≤ 100000000) {m : Int} (hmm : 0 ≤ m ∧ m ≤ 9223372036854775807) :
    Fn Try.prog 28 #[.pointer (some ⟨b, 0, none⟩), .int .i64 m] w (fun v w' => ∃ v1, v = .int .i64 (rdC xs e m).1 ∧ Ro R (encI .u8) 1 v1 (rdC xs e m).2.1 ∧ St w' R (blk b (.cells (#[v1, .int .i64 (rdC xs e m).2.2]) 55 (0, 0)) :: L)) := by
  obtain ⟨a0, c0, rfl, hl0⟩ := h0.len
  refine Fn.intro (n := 26) Try.func28 rfl rfl rfl ?_
  refine WR.seq ?_
  refine WR.region rfl ?_
  refine S.assignC rfl ?_
  refine WS.done ?_
  refine WR.seq ?_
  refine WR.region rfl ?_
  refine S.moveT rfl ?_
  refine S.nilCheck rfl rfl ?_
  refine S.fieldB Try.underlying55 rfl ti26 rfl rfl rfl rfl ?_
  refine S.loadB (i := 0) hS rfl Try.underlying26 rfl rfl rfl rfl ?_
  refine S.assignT rfl ?_
  refine WS.done ?_
  refine WR.seq ?_
  refine WR.region rfl ?_
  refine S.moveT rfl ?_
  refine S.call ent23 rfl (c_rUint hS (by exact h0) (by exact hb) (by exact hm)) rfl ?_
  rintro _ w12 ⟨vs12, rfl, hro12, hS12⟩
  clear hS
  have hu64 := rdU_u64 (e := e) hb
  refine S.assignT rfl ?_
  refine WS.done ?_
  refine WR.seq ?_
  refine WR.seq ?_
  refine WR.region rfl ?_
  refine S.moveT rfl ?_
  refine S.moveT rfl ?_
  refine S.max2 rfl rfl rfl ?_
  first
    | refine S.convN Try.underlying3 Try.underlying28 rfl rfl (wrap_u64 (by omega) (by omega)) ?_
    | refine S.conv Try.underlying3 Try.underlying28 rfl rfl ?_
  refine S.gtr rfl rfl rfl ?_
  refine WS.done ?_
  refine WR.condD rfl (fun c17 => ?_) (fun c17 => ?_)
  ·
    skip
    refine WR.seq ?_
    refine WR.region rfl ?_
    refine S.moveT rfl ?_
    refine S.call ent31 rfl (c_fail hS12 ) rfl ?_
    rintro _ w19 ⟨rfl, hS19⟩
    clear hS12
    refine WS.done ?_
    refine WR.seq ?_
    refine WR.region rfl ?_
    refine S.moveT rfl ?_
    refine S.moveT rfl ?_
    refine S.nilCheck rfl rfl ?_
    refine S.fieldB Try.underlying55 rfl ti26 rfl rfl rfl rfl ?_
    refine S.storeB (i := 0) hS19 rfl ti26 rfl rfl rfl rfl rfl rfl rfl rfl ?_
    intro w2001 hS2001; clear hS19
    refine WS.done ?_
    refine WR.seq ?_
    refine WR.region rfl ?_
    refine S.assignC rfl ?_
    refine WS.done ?_
    refine WR.ret (ret1 rfl rfl ?_)
    rw [rdC_long (by omega)]
    exact ⟨_, rfl, h0, hS2001⟩
  ·
    skip
    refine WR.skip ?_
    refine WR.seq ?_
    refine WR.region rfl ?_
    refine S.moveT rfl ?_
    first
      | refine S.convN Try.underlying28 Try.underlying3 rfl rfl (wrap_i64 (by omega) (by omega)) ?_
      | refine S.conv Try.underlying28 Try.underlying3 rfl rfl ?_
    refine S.assignT rfl ?_
    refine WS.done ?_
    refine WR.ret (ret1 rfl rfl ?_)
    rw [rdC_ok (by omega)]
    exact ⟨_, rfl, hro12, hS12⟩

set_option maxRecDepth 100000 in
set_option maxHeartbeats 4000000 in
theorem c_rText {w : World} {R : Kn} {L : List HP} {b : Nat} {v0 : Value} {e : Int} (hS : St w R (blk b (.cells (#[v0, .int .i64 e]) 55 (0, 0)) :: L)) {xs : List Int} (h0 : Ro R (encI .u8) 1 v0 xs) (hb : (∀ x ∈ xs, 0 ≤ x ∧ x < 256)) (hm : xs.length ≤ 100000000) {m : Int} (hmm : 0 ≤ m ∧ m ≤ 9223372036854775807) :
    Fn Try.prog 26 #[.pointer (some ⟨b, 0, none⟩), .int .i64 m] w (fun v w' => ∃ v1, v = .string (rdT xs e m).1 ∧ Ro R (encI .u8) 1 v1 (rdT xs e m).2.1 ∧ St w' R (blk b (.cells (#[v1, .int .i64 (rdT xs e m).2.2]) 55 (0, 0)) :: L)) := by
  obtain ⟨a0, c0, rfl, hl0⟩ := h0.len
  refine Fn.intro (n := 52) Try.func26 rfl rfl rfl ?_
  refine WR.seq ?_
  refine WR.region rfl ?_
  refine S.assignC rfl ?_
  refine WS.done ?_
  refine WR.seq ?_
  refine WR.region rfl ?_
  refine S.moveT rfl ?_
  refine S.nilCheck rfl rfl ?_
  refine S.fieldB Try.underlying55 rfl ti26 rfl rfl rfl rfl ?_
  refine S.loadB (i := 0) hS rfl Try.underlying26 rfl rfl rfl rfl ?_
  refine S.assignT rfl ?_
  refine WS.done ?_
  refine WR.seq ?_
  refine WR.region rfl ?_
  refine S.moveT rfl ?_
  refine S.moveT rfl ?_
  refine S.call ent28 rfl (c_rCount hS (by exact h0) (by exact hb) (by exact hm) (by exact hmm)) rfl ?_
  rintro _ w14 ⟨vs14, rfl, hro14, hS14⟩
  clear hS
  have hcu := rdC_u64 (e := e) (m := m) hb
  obtain ⟨a14, c14, rfl, hl14⟩ := hro14.len
  refine S.assignT rfl ?_
  refine WS.done ?_
  refine WR.seq ?_
  refine WR.block ?_
  refine WR.seq ?_
  refine WR.region rfl ?_
  refine S.moveT rfl ?_
  refine S.nilCheck rfl rfl ?_
  refine S.fieldB Try.underlying55 rfl ti42 rfl rfl rfl rfl ?_
  refine S.loadB (i := 0) hS14 rfl Try.underlying42 rfl rfl rfl rfl ?_
  refine S.neq rfl rfl rfl ?_
  refine S.assignT rfl ?_
  refine WS.done ?_
  refine WR.condD rfl (fun c15 => ?_) (fun c15 => ?_)
  ·
    skip
    refine WR.seq ?_
    refine WR.region rfl ?_
    refine S.assignC rfl ?_
    refine WS.done ?_
    refine WR.ret (ret1 rfl rfl ?_)
    rw [rdT_err c15]
    exact ⟨_, rfl, hro14, hS14⟩
  ·
    skip
    refine WR.seq ?_
    refine WR.region rfl ?_
    refine S.moveT rfl ?_
    refine S.moveT rfl ?_
    refine S.nilCheck rfl rfl ?_
    refine S.fieldB Try.underlying55 rfl ti26 rfl rfl rfl rfl ?_
    refine S.loadB (i := 0) hS14 rfl Try.underlying26 rfl rfl rfl rfl ?_
    refine S.lenSl Try.underlying26 rfl rfl ?_
    refine S.gtr rfl rfl rfl ?_
    refine S.assignT rfl ?_
    refine WS.done ?_
    refine WR.condD rfl (fun c21 => ?_) (fun c21 => ?_)
    ·
      skip
      refine WR.seq ?_
      refine WR.region rfl ?_
      refine S.moveT rfl ?_
      refine S.call ent31 rfl (c_fail hS14 ) rfl ?_
      rintro _ w30 ⟨rfl, hS30⟩
      clear hS14
      refine WS.done ?_
      refine WR.seq ?_
      refine WR.region rfl ?_
      refine S.moveT rfl ?_
      refine S.moveT rfl ?_
      refine S.nilCheck rfl rfl ?_
      refine S.fieldB Try.underlying55 rfl ti26 rfl rfl rfl rfl ?_
      refine S.storeB (i := 0) hS30 rfl ti26 rfl rfl rfl rfl rfl rfl rfl rfl ?_
      intro w2001 hS2001; clear hS30
      refine WS.done ?_
      refine WR.seq ?_
      refine WR.region rfl ?_
      refine S.assignC rfl ?_
      refine WS.done ?_
      refine WR.ret (ret1 rfl rfl ?_)
      rw [rdT_end (by omega) c21]
      exact ⟨_, rfl, h0, hS2001⟩
    ·
      skip
      refine WR.skip ?_
      refine WR.seq ?_
      refine WR.region rfl ?_
      refine S.moveT rfl ?_
      refine S.nilCheck rfl rfl ?_
      refine S.fieldB Try.underlying55 rfl ti26 rfl rfl rfl rfl ?_
      refine S.loadB (i := 0) hS14 rfl Try.underlying26 rfl rfl rfl rfl ?_
      refine S.moveT rfl ?_
      obtain ⟨n14, hn14⟩ := Int.eq_ofNat_of_zero_le hcu.1
      first
        | refine S.sliceHi (n14) h0 Try.underlying26 ti5 rfl rfl (by omega) (by omega) rfl ?_
        | refine S.sliceHi (n14) hro14 Try.underlying26 ti5 rfl rfl (by omega) (by omega) rfl ?_
      intro a40 cc40 hro40
      refine S.toStr hS14 hro40 Try.underlying26 Try.underlying5 Try.underlying9 rfl rfl ?_
      refine S.assignT rfl ?_
      refine WS.done ?_
      refine WR.seq ?_
      refine WR.region rfl ?_
      refine S.moveT rfl ?_
      refine S.moveT rfl ?_
      refine S.nilCheck rfl rfl ?_
      refine S.fieldB Try.underlying55 rfl ti26 rfl rfl rfl rfl ?_
      refine S.loadB (i := 0) hS14 rfl Try.underlying26 rfl rfl rfl rfl ?_
      refine S.moveT rfl ?_
      first
        | refine S.sliceLo (n14) h0 Try.underlying26 ti5 rfl rfl (by omega) (by omega) rfl ?_
        | refine S.sliceLo (n14) hro14 Try.underlying26 ti5 rfl rfl (by omega) (by omega) rfl ?_
        | refine S.sliceLo (n14) hro40 Try.underlying26 ti5 rfl rfl (by omega) (by omega) rfl ?_
      intro a48 cc48 hro48
      refine S.nilCheck rfl rfl ?_
      refine S.fieldB Try.underlying55 rfl ti26 rfl rfl rfl rfl ?_
      refine S.storeB (i := 0) hS14 rfl ti26 rfl rfl rfl rfl rfl rfl rfl rfl ?_
      intro w2002 hS2002; clear hS14
      refine WS.done ?_
      refine WR.seq ?_
      refine WR.region rfl ?_
      refine S.moveT rfl ?_
      refine S.assignT rfl ?_
      refine WS.done ?_
      refine WR.ret (ret1 rfl rfl ?_)
      have hz : (rdC xs e m).2.2 = 0 := by omega
      rw [rdT_ok hz c21, hn14, Int.toNat_natCast]
      rw [hz] at hS2002
      exact ⟨_, rfl, hro48, hS2002⟩

set_option maxRecDepth 100000 in
set_option maxHeartbeats 4000000 in
theorem c_rEnd {w : World} {R : Kn} {L : List HP} {b : Nat} {v0 : Value} {e : Int} (hS : St w R (blk b (.cells (#[v0, .int .i64 e]) 55 (0, 0)) :: L)) {xs : List Int} (h0 : Ro R (encI .u8) 1 v0 xs) (hb : (∀ x ∈ xs, 0 ≤ x ∧ x < 256)) (hm : xs.length ≤ 100000000) :
    Fn Try.prog 24 #[.pointer (some ⟨b, 0, none⟩)] w (fun v w' => v = .int .i64 (rdE xs e) ∧ St w' R (blk b (.cells (#[v0, .int .i64 (rdE xs e)]) 55 (0, 0)) :: L)) := by
  obtain ⟨a0, c0, rfl, hl0⟩ := h0.len
  refine Fn.intro (n := 22) Try.func24 rfl rfl rfl ?_
  refine WR.seq ?_
  refine WR.region rfl ?_
  refine S.assignC rfl ?_
  refine WS.done ?_
  refine WR.seq ?_
  refine WR.seq ?_
  refine WR.region rfl ?_
  refine S.moveT rfl ?_
  refine S.nilCheck rfl rfl ?_
  refine S.fieldB Try.underlying55 rfl ti42 rfl rfl rfl rfl ?_
  refine S.loadB (i := 0) hS rfl Try.underlying42 rfl rfl rfl rfl ?_
  refine S.eql rfl rfl rfl ?_
  refine S.moveT rfl ?_
  refine S.splitD (d := 8) rfl (fun c8 => ?_) (fun c8 => ?_)
  ·
    skip
    refine S.moveT rfl ?_
    refine S.nilCheck rfl rfl ?_
    refine S.fieldB Try.underlying55 rfl ti26 rfl rfl rfl rfl ?_
    refine S.loadB (i := 0) hS rfl Try.underlying26 rfl rfl rfl rfl ?_
    refine S.lenSl Try.underlying26 rfl rfl ?_
    refine S.gtr rfl rfl rfl ?_
    refine S.pickT rfl rfl ?_
    refine WS.done ?_
    refine WR.condD rfl (fun c15 => ?_) (fun c15 => ?_)
    ·
      skip
      refine WR.region rfl ?_
      refine S.moveT rfl ?_
      refine S.call ent31 rfl (c_fail hS ) rfl ?_
      rintro _ w17 ⟨rfl, hS17⟩
      clear hS
      refine WS.done ?_
      refine WR.seq ?_
      refine WR.region rfl ?_
      refine S.moveT rfl ?_
      refine S.nilCheck rfl rfl ?_
      refine S.fieldB Try.underlying55 rfl ti42 rfl rfl rfl rfl ?_
      refine S.loadB (i := 0) hS17 rfl Try.underlying42 rfl rfl rfl rfl ?_
      refine S.assignT rfl ?_
      refine WS.done ?_
      refine WR.ret (ret1 rfl rfl ?_)
      have hE := rdE_cases xs e
      first | (rw [show rdE xs e = 10 by omega]; exact ⟨rfl, hS17⟩) | (rw [show rdE xs e = e by omega]; exact ⟨rfl, hS17⟩)
    ·
      skip
      refine WR.skip ?_
      refine WR.seq ?_
      refine WR.region rfl ?_
      refine S.moveT rfl ?_
      refine S.nilCheck rfl rfl ?_
      refine S.fieldB Try.underlying55 rfl ti42 rfl rfl rfl rfl ?_
      refine S.loadB (i := 0) hS rfl Try.underlying42 rfl rfl rfl rfl ?_
      refine S.assignT rfl ?_
      refine WS.done ?_
      refine WR.ret (ret1 rfl rfl ?_)
      have hE := rdE_cases xs e
      first | (rw [show rdE xs e = 10 by omega]; exact ⟨rfl, hS⟩) | (rw [show rdE xs e = e by omega]; exact ⟨rfl, hS⟩)
  ·
    skip
    refine S.off rfl ?_
    refine S.off rfl ?_
    refine S.off rfl ?_
    refine S.off rfl ?_
    refine S.off rfl ?_
    refine S.off rfl ?_
    refine S.pickFC rfl rfl ?_
    refine WS.done ?_
    refine WR.condF rfl ?_
    refine WR.skip ?_
    refine WR.seq ?_
    refine WR.region rfl ?_
    refine S.moveT rfl ?_
    refine S.nilCheck rfl rfl ?_
    refine S.fieldB Try.underlying55 rfl ti42 rfl rfl rfl rfl ?_
    refine S.loadB (i := 0) hS rfl Try.underlying42 rfl rfl rfl rfl ?_
    refine S.assignT rfl ?_
    refine WS.done ?_
    refine WR.ret (ret1 rfl rfl ?_)
    have hE := rdE_cases xs e
    first | (rw [show rdE xs e = 10 by omega]; exact ⟨rfl, hS⟩) | (rw [show rdE xs e = e by omega]; exact ⟨rfl, hS⟩)


end Go.Proofs.Ytfajmfdoemjacaa.B

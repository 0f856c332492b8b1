import Derived.Test.YtfajmfdoemjacaaWalkA
namespace Go.Proofs.Ytfajmfdoemjacaa.B
open Go.Proofs Go.RowKit
set_option linter.unusedVariables false
set_option linter.unusedSimpArgs false
set_option maxRecDepth 100000 in
set_option maxHeartbeats 4000000 in
theorem law_CodeSizes {w : World} {R : Kn} {L : List HP}  (hS : St w R (L)) {a b x : Int} (ha : 0 ≤ a ∧ a < 18446744073709551616) (hb : 0 ≤ b ∧ b < 18446744073709551616) (hx : -9223372036854775808 ≤ x ∧ x ≤ 9223372036854775807) :
    Fn Try.prog 6 #[.int .u64 a, .int .u64 b, .int .i64 x] w (fun v w' => v = .bool true ∧ St w' R L) := by
  obtain ⟨n, rfl⟩ := Int.eq_ofNat_of_zero_le ha.1
  obtain ⟨m, rfl⟩ := Int.eq_ofNat_of_zero_le hb.1
  have hn : n < 18446744073709551616 := by omega
  have hmm : m < 18446744073709551616 := by omega
  have hn1 := ub_pos n
  have hn10 := ub_len10 hn
  have hone := @ub_one n
  have htwo := @ub_two n
  have htc := turn_cases x
  have htu := turn_u64 hx
  have hut := unturn_turn x
  refine Fn.intro (n := 79) Try.func6 rfl rfl rfl ?_
  refine WR.seq ?_
  refine WR.region rfl ?_
  refine S.assignC rfl ?_
  refine WS.done ?_
  refine WR.seq ?_
  refine WR.seq ?_
  refine WR.region rfl ?_
  refine S.call ent7 rfl (l6_alive hS ) rfl ?_
  rintro _ w10 ⟨rfl, hS10⟩
  clear hS
  refine S.not rfl rfl ?_
  refine WS.done ?_
  refine WR.condF rfl ?_
  refine WR.skip ?_
  refine WR.seq ?_
  refine WR.region rfl ?_
  refine S.moveT rfl ?_
  first
    | refine S.buildRow (vs := [.int _ _]) hS10 Try.underlying22 ti28 rfl rfl rfl rfl rfl rfl rfl ?_
    | refine S.buildRow hS10 Try.underlying22 ti28 rfl rfl rfl rfl rfl rfl rfl ?_
  intro b13 w13 hS13; clear hS10
  obtain ⟨R13, hR13, hro13, hSf13⟩ := hS13.keepRow (enc := encI .u64) (n := 1) [(n : Int)] rfl (fun _ _ => rfl)
  refine S.call ent16 rfl (c_uints hSf13 (by exact hro13) (by intro x hx; simp at hx; omega) (by simp)) rfl ?_
  rintro v14 w14 hS14
  clear hSf13
  obtain ⟨R14, hR14, hro14, hSf14⟩ := hS14.freeze (fun _ _ => rfl)
  replace hro13 := hro13.mono hR14
  rw [uB_one] at hro14
  obtain ⟨a14, d14, rfl, hl14⟩ := hro14.len
  refine S.lenSl Try.underlying26 rfl rfl ?_
  refine S.assignT rfl ?_
  refine WS.done ?_
  refine WR.seq ?_
  refine WR.region rfl ?_
  refine S.moveT rfl ?_
  first
    | refine S.buildRow (vs := [.int _ _]) hSf14 Try.underlying22 ti28 rfl rfl rfl rfl rfl rfl rfl ?_
    | refine S.buildRow hSf14 Try.underlying22 ti28 rfl rfl rfl rfl rfl rfl rfl ?_
  intro b17 w17 hS17; clear hSf14
  obtain ⟨R17, hR17, hro17, hSf17⟩ := hS17.keepRow (enc := encI .u64) (n := 1) [(m : Int)] rfl (fun _ _ => rfl)
  replace hro13 := hro13.mono hR17
  replace hro14 := hro14.mono hR17
  refine S.call ent16 rfl (c_uints hSf17 (by exact hro17) (by intro x hx; simp at hx; omega) (by simp)) rfl ?_
  rintro v18 w18 hS18
  clear hSf17
  obtain ⟨R18, hR18, hro18, hSf18⟩ := hS18.freeze (fun _ _ => rfl)
  replace hro13 := hro13.mono hR18
  replace hro14 := hro14.mono hR18
  replace hro17 := hro17.mono hR18
  rw [uB_one] at hro18
  obtain ⟨a18, d18, rfl, hl18⟩ := hro18.len
  refine S.lenSl Try.underlying26 rfl rfl ?_
  refine S.assignT rfl ?_
  refine WS.done ?_
  refine WR.seq ?_
  refine WR.seq ?_
  refine WR.region rfl ?_
  refine S.moveT rfl ?_
  refine S.lss rfl rfl rfl ?_
  refine S.isFD (d := 21) rfl (by omega) ?_
  refine S.moveT rfl ?_
  refine S.moveT rfl ?_
  refine S.gtr rfl rfl rfl ?_
  refine S.isFD (d := 24) rfl (by omega) ?_
  refine S.pickF rfl rfl ?_
  refine S.moveT rfl ?_
  refine S.moveT rfl ?_
  refine S.moveT rfl ?_
  refine S.leq rfl rfl rfl ?_
  refine S.moveT rfl ?_
  refine S.splitD (d := 30) rfl (fun c30 => ?_) (fun c30 => ?_)
  ·
    skip
    refine S.moveT rfl ?_
    refine S.moveT rfl ?_
    refine S.gtr rfl rfl rfl ?_
    refine S.isFD (d := 33) rfl (by have := ub_mono m n (by omega); omega) ?_
    refine S.pickT rfl rfl ?_
    refine S.pickF rfl rfl ?_
    refine S.moveT rfl ?_
    refine S.moveT rfl ?_
    refine S.lss rfl rfl rfl ?_
    refine S.moveT rfl ?_
    refine S.eql rfl rfl rfl ?_
    refine S.neqB Try.underlying4 rfl rfl rfl ?_
    refine S.isB (d := 41) (c := false) rfl (by exact beq_dec (by omega)) ?_
    refine S.pickF rfl rfl ?_
    refine S.moveT rfl ?_
    refine S.moveT rfl ?_
    refine S.lss rfl rfl rfl ?_
    refine S.moveT rfl ?_
    refine S.leq rfl rfl rfl ?_
    refine S.neqB Try.underlying4 rfl rfl rfl ?_
    refine S.isB (d := 48) (c := false) rfl (by exact beq_dec (by omega)) ?_
    refine S.pickF rfl rfl ?_
    refine WS.done ?_
    refine WR.condF rfl ?_
    refine WR.skip ?_
    refine WR.seq ?_
    refine WR.region rfl ?_
    refine S.moveT rfl ?_
    refine S.call ent11 rfl (c_turn hSf18 (by exact hx)) rfl ?_
    rintro _ w51 ⟨rfl, hS51⟩
    clear hSf18
    refine S.assignT rfl ?_
    refine WS.done ?_
    refine WR.seq ?_
    refine WR.seq ?_
    refine WR.region rfl ?_
    refine S.moveT rfl ?_
    refine S.geq rfl rfl rfl ?_
    refine WS.done ?_
    refine WR.condD rfl (fun c53 => ?_) (fun c53 => ?_)
    ·
      skip
      refine WR.seq ?_
      refine WR.region rfl ?_
      refine S.moveT rfl ?_
      refine S.moveT rfl ?_
      first
        | refine S.convN Try.underlying2 Try.underlying28 rfl rfl (wrap_u64 (by omega) (by omega)) ?_
        | refine S.conv Try.underlying2 Try.underlying28 rfl rfl ?_
      first
        | refine S.mulU rfl rfl rfl (by omega) ?_
        | refine S.mul rfl rfl rfl ?_
      refine S.eql rfl rfl rfl ?_
      refine S.isTD (d := 58) rfl (by omega) ?_
      refine S.moveT rfl ?_
      refine S.moveT rfl ?_
      refine S.call ent9 rfl (c_unturn hS51 (by exact htu)) rfl ?_
      rintro _ w61 ⟨rfl, hS61⟩
      clear hS51
      refine S.moveT rfl ?_
      refine S.eql rfl rfl rfl ?_
      refine S.isTD (d := 63) rfl (by omega) ?_
      refine S.pickT rfl rfl ?_
      refine S.assignT rfl ?_
      refine WS.done ?_
      refine WR.ret (ret1 rfl rfl ?_)
      exact ⟨rfl, hS61.weak (hR13.trans (hR14.trans (hR17.trans hR18)))⟩
    ·
      skip
      refine WR.skip ?_
      refine WR.seq ?_
      refine WR.region rfl ?_
      refine S.moveT rfl ?_
      refine S.moveT rfl ?_
      first
        | refine S.addN rfl rfl rfl (by omega) ?_
        | refine S.add rfl rfl rfl ?_
      first
        | refine S.negN rfl rfl (by omega) ?_
        | refine S.neg rfl rfl ?_
      first
        | refine S.convN Try.underlying2 Try.underlying28 rfl rfl (wrap_u64 (by omega) (by omega)) ?_
        | refine S.conv Try.underlying2 Try.underlying28 rfl rfl ?_
      first
        | refine S.mulU rfl rfl rfl (by omega) ?_
        | refine S.mul rfl rfl rfl ?_
      first
        | refine S.addU rfl rfl rfl (by omega) ?_
        | refine S.add rfl rfl rfl ?_
      refine S.eql rfl rfl rfl ?_
      refine S.isTD (d := 72) rfl (by omega) ?_
      refine S.moveT rfl ?_
      refine S.moveT rfl ?_
      refine S.call ent9 rfl (c_unturn hS51 (by exact htu)) rfl ?_
      rintro _ w75 ⟨rfl, hS75⟩
      clear hS51
      refine S.moveT rfl ?_
      refine S.eql rfl rfl rfl ?_
      refine S.isTD (d := 77) rfl (by omega) ?_
      refine S.pickT rfl rfl ?_
      refine S.assignT rfl ?_
      refine WS.done ?_
      refine WR.ret (ret1 rfl rfl ?_)
      exact ⟨rfl, hS75.weak (hR13.trans (hR14.trans (hR17.trans hR18)))⟩
  ·
    skip
    refine S.off rfl ?_
    refine S.off rfl ?_
    refine S.off rfl ?_
    refine S.pickFC rfl rfl ?_
    refine S.pickF rfl rfl ?_
    refine S.moveT rfl ?_
    refine S.moveT rfl ?_
    refine S.lss rfl rfl rfl ?_
    refine S.moveT rfl ?_
    refine S.eql rfl rfl rfl ?_
    refine S.neqB Try.underlying4 rfl rfl rfl ?_
    refine S.isB (d := 41) (c := false) rfl (by exact beq_dec (by omega)) ?_
    refine S.pickF rfl rfl ?_
    refine S.moveT rfl ?_
    refine S.moveT rfl ?_
    refine S.lss rfl rfl rfl ?_
    refine S.moveT rfl ?_
    refine S.leq rfl rfl rfl ?_
    refine S.neqB Try.underlying4 rfl rfl rfl ?_
    refine S.isB (d := 48) (c := false) rfl (by exact beq_dec (by omega)) ?_
    refine S.pickF rfl rfl ?_
    refine WS.done ?_
    refine WR.condF rfl ?_
    refine WR.skip ?_
    refine WR.seq ?_
    refine WR.region rfl ?_
    refine S.moveT rfl ?_
    refine S.call ent11 rfl (c_turn hSf18 (by exact hx)) rfl ?_
    rintro _ w51 ⟨rfl, hS51⟩
    clear hSf18
    refine S.assignT rfl ?_
    refine WS.done ?_
    refine WR.seq ?_
    refine WR.seq ?_
    refine WR.region rfl ?_
    refine S.moveT rfl ?_
    refine S.geq rfl rfl rfl ?_
    refine WS.done ?_
    refine WR.condD rfl (fun c53 => ?_) (fun c53 => ?_)
    ·
      skip
      refine WR.seq ?_
      refine WR.region rfl ?_
      refine S.moveT rfl ?_
      refine S.moveT rfl ?_
      first
        | refine S.convN Try.underlying2 Try.underlying28 rfl rfl (wrap_u64 (by omega) (by omega)) ?_
        | refine S.conv Try.underlying2 Try.underlying28 rfl rfl ?_
      first
        | refine S.mulU rfl rfl rfl (by omega) ?_
        | refine S.mul rfl rfl rfl ?_
      refine S.eql rfl rfl rfl ?_
      refine S.isTD (d := 58) rfl (by omega) ?_
      refine S.moveT rfl ?_
      refine S.moveT rfl ?_
      refine S.call ent9 rfl (c_unturn hS51 (by exact htu)) rfl ?_
      rintro _ w61 ⟨rfl, hS61⟩
      clear hS51
      refine S.moveT rfl ?_
      refine S.eql rfl rfl rfl ?_
      refine S.isTD (d := 63) rfl (by omega) ?_
      refine S.pickT rfl rfl ?_
      refine S.assignT rfl ?_
      refine WS.done ?_
      refine WR.ret (ret1 rfl rfl ?_)
      exact ⟨rfl, hS61.weak (hR13.trans (hR14.trans (hR17.trans hR18)))⟩
    ·
      skip
      refine WR.skip ?_
      refine WR.seq ?_
      refine WR.region rfl ?_
      refine S.moveT rfl ?_
      refine S.moveT rfl ?_
      first
        | refine S.addN rfl rfl rfl (by omega) ?_
        | refine S.add rfl rfl rfl ?_
      first
        | refine S.negN rfl rfl (by omega) ?_
        | refine S.neg rfl rfl ?_
      first
        | refine S.convN Try.underlying2 Try.underlying28 rfl rfl (wrap_u64 (by omega) (by omega)) ?_
        | refine S.conv Try.underlying2 Try.underlying28 rfl rfl ?_
      first
        | refine S.mulU rfl rfl rfl (by omega) ?_
        | refine S.mul rfl rfl rfl ?_
      first
        | refine S.addU rfl rfl rfl (by omega) ?_
        | refine S.add rfl rfl rfl ?_
      refine S.eql rfl rfl rfl ?_
      refine S.isTD (d := 72) rfl (by omega) ?_
      refine S.moveT rfl ?_
      refine S.moveT rfl ?_
      refine S.call ent9 rfl (c_unturn hS51 (by exact htu)) rfl ?_
      rintro _ w75 ⟨rfl, hS75⟩
      clear hS51
      refine S.moveT rfl ?_
      refine S.eql rfl rfl rfl ?_
      refine S.isTD (d := 77) rfl (by omega) ?_
      refine S.pickT rfl rfl ?_
      refine S.assignT rfl ?_
      refine WS.done ?_
      refine WR.ret (ret1 rfl rfl ?_)
      exact ⟨rfl, hS75.weak (hR13.trans (hR14.trans (hR17.trans hR18)))⟩


end Go.Proofs.Ytfajmfdoemjacaa.B

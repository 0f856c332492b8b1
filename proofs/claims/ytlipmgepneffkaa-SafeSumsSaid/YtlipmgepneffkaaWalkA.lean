import Derived.Test.YtlipmgepneffkaaWalkS
namespace Go.Proofs.Ytlipmgepneffkaa.B
open Go.Proofs Go.RowKit
set_option linter.unusedVariables false
set_option linter.unusedSimpArgs false
set_option maxRecDepth 100000 in
set_option maxHeartbeats 4000000 in
theorem law_alive {w : World} {R : Kn} {L : List HP} (hS : St w R (L))  :
    Fn Try.prog 6 #[] w (fun v w' => v = .bool true ∧ St w' R L) := by
  refine Fn.intro (n := 106) Try.func6 rfl rfl rfl ?_
  refine WR.seq ?_
  refine WR.region rfl ?_
  refine S.assignC rfl ?_
  refine WS.done ?_
  refine WR.seq ?_
  refine WR.region rfl ?_
  refine S.call ent11 rfl (s_add hS (by decide) (by decide)) rfl ?_
  rintro _ w16 ⟨rfl, hS16⟩
  clear hS
  refine S.moveT rfl ?_
  refine S.extract rfl rfl rfl ?_
  refine S.extract rfl rfl rfl ?_
  refine S.assignT rfl ?_
  refine S.assignT rfl ?_
  refine WS.done ?_
  refine WR.seq ?_
  refine WR.region rfl ?_
  refine S.call ent12 rfl (s_sub hS16 (by decide) (by decide)) rfl ?_
  rintro _ w20 ⟨rfl, hS20⟩
  clear hS16
  refine S.moveT rfl ?_
  refine S.extract rfl rfl rfl ?_
  refine S.extract rfl rfl rfl ?_
  refine S.assignT rfl ?_
  refine S.assignT rfl ?_
  refine WS.done ?_
  refine WR.seq ?_
  refine WR.region rfl ?_
  refine S.call ent13 rfl (s_mul hS20 (by decide) (by decide)) rfl ?_
  rintro _ w24 ⟨rfl, hS24⟩
  clear hS20
  refine S.moveT rfl ?_
  refine S.extract rfl rfl rfl ?_
  refine S.extract rfl rfl rfl ?_
  refine S.assignT rfl ?_
  refine S.assignT rfl ?_
  refine WS.done ?_
  refine WR.seq ?_
  refine WR.region rfl ?_
  first
    | refine S.buildRow (vs := [.int _ _, .int _ _, .int _ _]) hS24 Try.underlying22 ti2 rfl rfl rfl rfl rfl rfl rfl ?_
    | refine S.buildRow hS24 Try.underlying22 ti2 rfl rfl rfl rfl rfl rfl rfl ?_
  intro b28 w28 hS28; clear hS24
  obtain ⟨R1, hR1, hro28, hSf⟩ := hS28.keepRow (enc := encI .i64) (n := 1) [4611686018427387904, 4611686018427387904, -1] rfl (fun _ _ => rfl)
  refine S.call ent8 rfl (s_sum hSf (by exact hro28) (by decide) (by decide)) rfl ?_
  rintro _ w29 ⟨rfl, hS29⟩
  clear hSf
  replace hS29 := hS29.weak hR1
  refine S.moveT rfl ?_
  refine S.extract rfl rfl rfl ?_
  refine S.extract rfl rfl rfl ?_
  refine S.assignT rfl ?_
  refine S.assignT rfl ?_
  refine WS.done ?_
  refine WR.seq ?_
  refine WR.region rfl ?_
  refine S.call ent14 rfl (s_ratio hS29 (by decide) (by decide) (by decide)) rfl ?_
  rintro _ w33 ⟨rfl, hS33⟩
  clear hS29
  refine S.moveT rfl ?_
  refine S.extract rfl rfl rfl ?_
  refine S.extract rfl rfl rfl ?_
  refine S.assignT rfl ?_
  refine S.assignT rfl ?_
  refine WS.done ?_
  refine WR.seq ?_
  refine WR.region rfl ?_
  refine S.call ent14 rfl (s_ratio hS33 (by decide) (by decide) (by decide)) rfl ?_
  rintro _ w37 ⟨rfl, hS37⟩
  clear hS33
  refine S.moveT rfl ?_
  refine S.extract rfl rfl rfl ?_
  refine S.extract rfl rfl rfl ?_
  refine S.assignT rfl ?_
  refine S.assignT rfl ?_
  refine WS.done ?_
  refine WR.seq ?_
  refine WR.region rfl ?_
  refine S.call ent14 rfl (s_ratio hS37 (by decide) (by decide) (by decide)) rfl ?_
  rintro _ w41 ⟨rfl, hS41⟩
  clear hS37
  refine S.moveT rfl ?_
  refine S.extract rfl rfl rfl ?_
  refine S.extract rfl rfl rfl ?_
  refine S.assignT rfl ?_
  refine S.assignT rfl ?_
  refine WS.done ?_
  refine WR.seq ?_
  refine WR.region rfl ?_
  refine S.moveT rfl ?_
  refine S.eql rfl rfl rfl ?_
  refine S.isTD (d := 45) rfl (by decide) ?_
  refine S.moveT rfl ?_
  refine S.moveT rfl ?_
  refine S.eql rfl rfl rfl ?_
  refine S.isTD (d := 48) rfl (by decide) ?_
  refine S.pickT rfl rfl ?_
  refine S.moveT rfl ?_
  refine S.moveT rfl ?_
  refine S.eql rfl rfl rfl ?_
  refine S.isTD (d := 52) rfl (by decide) ?_
  refine S.pickT rfl rfl ?_
  refine S.moveT rfl ?_
  refine S.moveT rfl ?_
  refine S.eql rfl rfl rfl ?_
  refine S.isTD (d := 56) rfl (by decide) ?_
  refine S.pickT rfl rfl ?_
  refine S.moveT rfl ?_
  refine S.moveT rfl ?_
  refine S.eql rfl rfl rfl ?_
  refine S.isTD (d := 60) rfl (by decide) ?_
  refine S.pickT rfl rfl ?_
  refine S.moveT rfl ?_
  refine S.moveT rfl ?_
  refine S.eql rfl rfl rfl ?_
  refine S.isTD (d := 64) rfl (by decide) ?_
  refine S.pickT rfl rfl ?_
  refine S.moveT rfl ?_
  refine S.moveT rfl ?_
  refine S.eql rfl rfl rfl ?_
  refine S.isTD (d := 68) rfl (by decide) ?_
  refine S.pickT rfl rfl ?_
  refine S.moveT rfl ?_
  refine S.moveT rfl ?_
  refine S.eql rfl rfl rfl ?_
  refine S.isTD (d := 72) rfl (by decide) ?_
  refine S.pickT rfl rfl ?_
  refine S.moveT rfl ?_
  refine S.moveT rfl ?_
  refine S.eql rfl rfl rfl ?_
  refine S.isTD (d := 76) rfl (by decide) ?_
  refine S.pickT rfl rfl ?_
  refine S.moveT rfl ?_
  refine S.moveT rfl ?_
  refine S.eql rfl rfl rfl ?_
  refine S.isTD (d := 80) rfl (by decide) ?_
  refine S.pickT rfl rfl ?_
  refine S.moveT rfl ?_
  refine S.moveT rfl ?_
  refine S.eql rfl rfl rfl ?_
  refine S.isTD (d := 84) rfl (by decide) ?_
  refine S.pickT rfl rfl ?_
  refine S.moveT rfl ?_
  refine S.moveT rfl ?_
  refine S.eql rfl rfl rfl ?_
  refine S.isTD (d := 88) rfl (by decide) ?_
  refine S.pickT rfl rfl ?_
  refine S.moveT rfl ?_
  refine S.moveT rfl ?_
  refine S.eql rfl rfl rfl ?_
  refine S.isTD (d := 92) rfl (by decide) ?_
  refine S.pickT rfl rfl ?_
  refine S.moveT rfl ?_
  refine S.call ent15 rfl (s_clamp hS41 ) rfl ?_
  rintro _ w95 ⟨rfl, hS95⟩
  clear hS41
  refine S.eql rfl rfl rfl ?_
  refine S.isTD (d := 96) rfl (by decide) ?_
  refine S.pickT rfl rfl ?_
  refine S.moveT rfl ?_
  refine S.call ent15 rfl (s_clamp hS95 ) rfl ?_
  rintro _ w99 ⟨rfl, hS99⟩
  clear hS95
  refine S.eql rfl rfl rfl ?_
  refine S.isTD (d := 100) rfl (by decide) ?_
  refine S.pickT rfl rfl ?_
  refine S.moveT rfl ?_
  refine S.call ent15 rfl (s_clamp hS99 ) rfl ?_
  rintro _ w103 ⟨rfl, hS103⟩
  clear hS99
  refine S.eql rfl rfl rfl ?_
  refine S.isTD (d := 104) rfl (by decide) ?_
  refine S.pickT rfl rfl ?_
  refine S.assignT rfl ?_
  refine WS.done ?_
  refine WR.ret (ret1 rfl rfl ?_)
  exact ⟨rfl, hS103⟩

set_option maxRecDepth 100000 in
set_option maxHeartbeats 4000000 in
theorem law_SafeBack {w : World} {R : Kn} {L : List HP} (hS : St w R (L)) {a b c : Int} (ha : fits a) (hb : fits b) :
    Fn Try.prog 4 #[.int .i64 a, .int .i64 b, .int .i64 c] w (fun v w' => v = .bool true ∧ St w' R L) := by
  refine Fn.intro (n := 96) Try.func4 rfl rfl rfl ?_
  refine WR.seq ?_
  refine WR.region rfl ?_
  refine S.assignC rfl ?_
  refine WS.done ?_
  refine WR.seq ?_
  refine WR.seq ?_
  refine WR.region rfl ?_
  refine S.call ent6 rfl (law_alive hS ) rfl ?_
  rintro _ w18 ⟨rfl, hS18⟩
  clear hS
  refine S.not rfl rfl ?_
  refine WS.done ?_
  refine WR.condF rfl ?_
  refine WR.skip ?_
  refine WR.seq ?_
  refine WR.region rfl ?_
  refine S.moveT rfl ?_
  refine S.moveT rfl ?_
  refine S.call ent11 rfl (s_add hS18 (by assumption) (by assumption)) rfl ?_
  rintro _ w23 ⟨rfl, hS23⟩
  clear hS18
  refine S.moveT rfl ?_
  refine S.extract rfl rfl rfl ?_
  refine S.extract rfl rfl rfl ?_
  refine S.assignT rfl ?_
  refine S.assignT rfl ?_
  refine WS.done ?_
  refine WR.seq ?_
  refine WR.seq ?_
  refine WR.region rfl ?_
  refine S.moveT rfl ?_
  refine S.eql rfl rfl rfl ?_
  refine WS.done ?_
  refine WR.condD rfl (fun c27 => ?_) (fun c27 => ?_)
  ·
    skip
    refine WR.seq ?_
    refine WR.region rfl ?_
    have hf := told_ok c27
    refine S.as (d := 7) rfl (congrArg (Value.int .i64) (if_pos hf)) ?_
    refine S.moveT rfl ?_
    refine S.moveT rfl ?_
    refine S.call ent12 rfl (s_sub hS23 (by assumption) (by assumption)) rfl ?_
    rintro _ w31 ⟨rfl, hS31⟩
    clear hS23
    refine S.as (d := 31) rfl ((congrArg told (Int.add_sub_cancel a b)).trans (told_in ha)) ?_
    refine S.moveT rfl ?_
    refine S.extract rfl rfl rfl ?_
    refine S.extract rfl rfl rfl ?_
    refine S.assignT rfl ?_
    refine S.assignT rfl ?_
    refine WS.done ?_
    refine WR.seq ?_
    refine WR.region rfl ?_
    refine S.moveT rfl ?_
    refine S.neq rfl rfl rfl ?_
    refine S.isFD (d := 35) rfl (by exact fun h => h rfl) ?_
    refine S.moveT rfl ?_
    refine S.moveT rfl ?_
    refine S.moveT rfl ?_
    refine S.neq rfl rfl rfl ?_
    refine S.isFD (d := 39) rfl (by exact fun h => h rfl) ?_
    refine S.pickF rfl rfl ?_
    refine WS.done ?_
    refine WR.condF rfl ?_
    refine WR.skip ?_
    refine WR.seq ?_
    refine WR.region rfl ?_
    refine S.moveT rfl ?_
    refine S.moveT rfl ?_
    refine S.call ent13 rfl (s_mul hS31 (by assumption) (by assumption)) rfl ?_
    rintro _ w44 ⟨rfl, hS44⟩
    clear hS31
    refine S.moveT rfl ?_
    refine S.extract rfl rfl rfl ?_
    refine S.extract rfl rfl rfl ?_
    refine S.assignT rfl ?_
    refine S.assignT rfl ?_
    refine WS.done ?_
    refine WR.seq ?_
    refine WR.seq ?_
    refine WR.region rfl ?_
    refine S.moveT rfl ?_
    refine S.eql rfl rfl rfl ?_
    refine S.moveT rfl ?_
    refine S.splitD (d := 49) rfl (fun c49 => ?_) (fun c49 => ?_)
    ·
      skip
      refine S.moveT rfl ?_
      refine S.gtr rfl rfl rfl ?_
      refine S.pickT rfl rfl ?_
      refine WS.done ?_
      refine WR.condD rfl (fun c52 => ?_) (fun c52 => ?_)
      ·
        skip
        refine WR.seq ?_
        refine WR.region rfl ?_
        have hf2 := told_ok c49
        refine S.as (d := 11) rfl (congrArg (Value.int .i64) (if_pos hf2)) ?_
        refine S.moveT rfl ?_
        refine S.moveT rfl ?_
        refine S.call ent14 rfl (s_ratio hS44 (by exact hf2) (by decide) (by exact hb)) rfl ?_
        rintro _ w56 ⟨rfl, hS56⟩
        clear hS44
        refine S.as (d := 56) rfl (back_tup c52 ha) ?_
        refine S.moveT rfl ?_
        refine S.extract rfl rfl rfl ?_
        refine S.extract rfl rfl rfl ?_
        refine S.assignT rfl ?_
        refine S.assignT rfl ?_
        refine WS.done ?_
        refine WR.seq ?_
        refine WR.region rfl ?_
        refine S.moveT rfl ?_
        refine S.moveT rfl ?_
        refine S.call ent14 rfl (s_ratio hS56 (by exact hf2) (by decide) (by exact hb)) rfl ?_
        rintro _ w62 ⟨rfl, hS62⟩
        clear hS56
        refine S.as (d := 62) rfl (back_tup c52 ha) ?_
        refine S.moveT rfl ?_
        refine S.extract rfl rfl rfl ?_
        refine S.extract rfl rfl rfl ?_
        refine S.assignT rfl ?_
        refine S.assignT rfl ?_
        refine WS.done ?_
        refine WR.seq ?_
        refine WR.region rfl ?_
        refine S.moveT rfl ?_
        refine S.neq rfl rfl rfl ?_
        refine S.isFD (d := 66) rfl (by exact fun h => h rfl) ?_
        refine S.moveT rfl ?_
        refine S.moveT rfl ?_
        refine S.neq rfl rfl rfl ?_
        refine S.isFD (d := 69) rfl (by exact fun h => h rfl) ?_
        refine S.pickF rfl rfl ?_
        refine S.moveT rfl ?_
        refine S.moveT rfl ?_
        refine S.moveT rfl ?_
        refine S.neq rfl rfl rfl ?_
        refine S.isFD (d := 74) rfl (by exact fun h => h rfl) ?_
        refine S.pickF rfl rfl ?_
        refine S.moveT rfl ?_
        refine S.moveT rfl ?_
        refine S.moveT rfl ?_
        refine S.neq rfl rfl rfl ?_
        refine S.isFD (d := 79) rfl (by exact fun h => h rfl) ?_
        refine S.pickF rfl rfl ?_
        refine WS.done ?_
        refine WR.condF rfl ?_
        refine WR.skip ?_
        refine WR.seq ?_
        refine WR.region rfl ?_
        refine S.moveT rfl ?_
        refine S.assignT rfl ?_
        refine WS.done ?_
        refine WR.seq ?_
        refine WR.seq ?_
        refine WR.region rfl ?_
        refine S.moveT rfl ?_
        refine S.moveT rfl ?_
        refine S.lss rfl rfl rfl ?_
        refine WS.done ?_
        refine WR.condD rfl (fun c84 => ?_) (fun c84 => ?_)
        ·
          skip
          refine WR.region rfl ?_
          refine S.moveT rfl ?_
          refine S.assignT rfl ?_
          refine WS.done ?_
          refine WR.seq ?_
          refine WR.seq ?_
          refine WR.region rfl ?_
          refine S.moveT rfl ?_
          refine S.moveT rfl ?_
          refine S.gtr rfl rfl rfl ?_
          refine WS.done ?_
          refine WR.condD rfl (fun c88 => ?_) (fun c88 => ?_)
          ·
            skip
            refine WR.region rfl ?_
            refine S.moveT rfl ?_
            refine S.assignT rfl ?_
            refine WS.done ?_
            refine WR.seq ?_
            refine WR.region rfl ?_
            refine S.moveT rfl ?_
            refine S.moveT rfl ?_
            refine S.moveT rfl ?_
            refine S.call ent15 rfl (s_clamp hS62 ) rfl ?_
            rintro _ w93 ⟨rfl, hS93⟩
            clear hS62
            refine S.moveT rfl ?_
            refine S.eql rfl rfl rfl ?_
            refine S.isTD (d := 95) rfl (by omega) ?_
            refine S.assignT rfl ?_
            refine WS.done ?_
            refine WR.ret (ret1 rfl rfl ?_)
            exact ⟨rfl, hS93⟩
          ·
            skip
            refine WR.skip ?_
            refine WR.seq ?_
            refine WR.region rfl ?_
            refine S.moveT rfl ?_
            refine S.moveT rfl ?_
            refine S.moveT rfl ?_
            refine S.call ent15 rfl (s_clamp hS62 ) rfl ?_
            rintro _ w93 ⟨rfl, hS93⟩
            clear hS62
            refine S.moveT rfl ?_
            refine S.eql rfl rfl rfl ?_
            refine S.isTD (d := 95) rfl (by omega) ?_
            refine S.assignT rfl ?_
            refine WS.done ?_
            refine WR.ret (ret1 rfl rfl ?_)
            exact ⟨rfl, hS93⟩
        ·
          skip
          refine WR.skip ?_
          refine WR.seq ?_
          refine WR.seq ?_
          refine WR.region rfl ?_
          refine S.moveT rfl ?_
          refine S.moveT rfl ?_
          refine S.gtr rfl rfl rfl ?_
          refine WS.done ?_
          refine WR.condD rfl (fun c88 => ?_) (fun c88 => ?_)
          ·
            skip
            refine WR.region rfl ?_
            refine S.moveT rfl ?_
            refine S.assignT rfl ?_
            refine WS.done ?_
            refine WR.seq ?_
            refine WR.region rfl ?_
            refine S.moveT rfl ?_
            refine S.moveT rfl ?_
            refine S.moveT rfl ?_
            refine S.call ent15 rfl (s_clamp hS62 ) rfl ?_
            rintro _ w93 ⟨rfl, hS93⟩
            clear hS62
            refine S.moveT rfl ?_
            refine S.eql rfl rfl rfl ?_
            refine S.isTD (d := 95) rfl (by omega) ?_
            refine S.assignT rfl ?_
            refine WS.done ?_
            refine WR.ret (ret1 rfl rfl ?_)
            exact ⟨rfl, hS93⟩
          ·
            skip
            refine WR.skip ?_
            refine WR.seq ?_
            refine WR.region rfl ?_
            refine S.moveT rfl ?_
            refine S.moveT rfl ?_
            refine S.moveT rfl ?_
            refine S.call ent15 rfl (s_clamp hS62 ) rfl ?_
            rintro _ w93 ⟨rfl, hS93⟩
            clear hS62
            refine S.moveT rfl ?_
            refine S.eql rfl rfl rfl ?_
            refine S.isTD (d := 95) rfl (by omega) ?_
            refine S.assignT rfl ?_
            refine WS.done ?_
            refine WR.ret (ret1 rfl rfl ?_)
            exact ⟨rfl, hS93⟩
      ·
        skip
        refine WR.skip ?_
        refine WR.seq ?_
        refine WR.region rfl ?_
        refine S.moveT rfl ?_
        refine S.assignT rfl ?_
        refine WS.done ?_
        refine WR.seq ?_
        refine WR.seq ?_
        refine WR.region rfl ?_
        refine S.moveT rfl ?_
        refine S.moveT rfl ?_
        refine S.lss rfl rfl rfl ?_
        refine WS.done ?_
        refine WR.condD rfl (fun c84 => ?_) (fun c84 => ?_)
        ·
          skip
          refine WR.region rfl ?_
          refine S.moveT rfl ?_
          refine S.assignT rfl ?_
          refine WS.done ?_
          refine WR.seq ?_
          refine WR.seq ?_
          refine WR.region rfl ?_
          refine S.moveT rfl ?_
          refine S.moveT rfl ?_
          refine S.gtr rfl rfl rfl ?_
          refine WS.done ?_
          refine WR.condD rfl (fun c88 => ?_) (fun c88 => ?_)
          ·
            skip
            refine WR.region rfl ?_
            refine S.moveT rfl ?_
            refine S.assignT rfl ?_
            refine WS.done ?_
            refine WR.seq ?_
            refine WR.region rfl ?_
            refine S.moveT rfl ?_
            refine S.moveT rfl ?_
            refine S.moveT rfl ?_
            refine S.call ent15 rfl (s_clamp hS44 ) rfl ?_
            rintro _ w93 ⟨rfl, hS93⟩
            clear hS44
            refine S.moveT rfl ?_
            refine S.eql rfl rfl rfl ?_
            refine S.isTD (d := 95) rfl (by omega) ?_
            refine S.assignT rfl ?_
            refine WS.done ?_
            refine WR.ret (ret1 rfl rfl ?_)
            exact ⟨rfl, hS93⟩
          ·
            skip
            refine WR.skip ?_
            refine WR.seq ?_
            refine WR.region rfl ?_
            refine S.moveT rfl ?_
            refine S.moveT rfl ?_
            refine S.moveT rfl ?_
            refine S.call ent15 rfl (s_clamp hS44 ) rfl ?_
            rintro _ w93 ⟨rfl, hS93⟩
            clear hS44
            refine S.moveT rfl ?_
            refine S.eql rfl rfl rfl ?_
            refine S.isTD (d := 95) rfl (by omega) ?_
            refine S.assignT rfl ?_
            refine WS.done ?_
            refine WR.ret (ret1 rfl rfl ?_)
            exact ⟨rfl, hS93⟩
        ·
          skip
          refine WR.skip ?_
          refine WR.seq ?_
          refine WR.seq ?_
          refine WR.region rfl ?_
          refine S.moveT rfl ?_
          refine S.moveT rfl ?_
          refine S.gtr rfl rfl rfl ?_
          refine WS.done ?_
          refine WR.condD rfl (fun c88 => ?_) (fun c88 => ?_)
          ·
            skip
            refine WR.region rfl ?_
            refine S.moveT rfl ?_
            refine S.assignT rfl ?_
            refine WS.done ?_
            refine WR.seq ?_
            refine WR.region rfl ?_
            refine S.moveT rfl ?_
            refine S.moveT rfl ?_
            refine S.moveT rfl ?_
            refine S.call ent15 rfl (s_clamp hS44 ) rfl ?_
            rintro _ w93 ⟨rfl, hS93⟩
            clear hS44
            refine S.moveT rfl ?_
            refine S.eql rfl rfl rfl ?_
            refine S.isTD (d := 95) rfl (by omega) ?_
            refine S.assignT rfl ?_
            refine WS.done ?_
            refine WR.ret (ret1 rfl rfl ?_)
            exact ⟨rfl, hS93⟩
          ·
            skip
            refine WR.skip ?_
            refine WR.seq ?_
            refine WR.region rfl ?_
            refine S.moveT rfl ?_
            refine S.moveT rfl ?_
            refine S.moveT rfl ?_
            refine S.call ent15 rfl (s_clamp hS44 ) rfl ?_
            rintro _ w93 ⟨rfl, hS93⟩
            clear hS44
            refine S.moveT rfl ?_
            refine S.eql rfl rfl rfl ?_
            refine S.isTD (d := 95) rfl (by omega) ?_
            refine S.assignT rfl ?_
            refine WS.done ?_
            refine WR.ret (ret1 rfl rfl ?_)
            exact ⟨rfl, hS93⟩
    ·
      skip
      refine S.off rfl ?_
      refine S.off rfl ?_
      refine S.pickFC rfl rfl ?_
      refine WS.done ?_
      refine WR.condF rfl ?_
      refine WR.skip ?_
      refine WR.seq ?_
      refine WR.region rfl ?_
      refine S.moveT rfl ?_
      refine S.assignT rfl ?_
      refine WS.done ?_
      refine WR.seq ?_
      refine WR.seq ?_
      refine WR.region rfl ?_
      refine S.moveT rfl ?_
      refine S.moveT rfl ?_
      refine S.lss rfl rfl rfl ?_
      refine WS.done ?_
      refine WR.condD rfl (fun c84 => ?_) (fun c84 => ?_)
      ·
        skip
        refine WR.region rfl ?_
        refine S.moveT rfl ?_
        refine S.assignT rfl ?_
        refine WS.done ?_
        refine WR.seq ?_
        refine WR.seq ?_
        refine WR.region rfl ?_
        refine S.moveT rfl ?_
        refine S.moveT rfl ?_
        refine S.gtr rfl rfl rfl ?_
        refine WS.done ?_
        refine WR.condD rfl (fun c88 => ?_) (fun c88 => ?_)
        ·
          skip
          refine WR.region rfl ?_
          refine S.moveT rfl ?_
          refine S.assignT rfl ?_
          refine WS.done ?_
          refine WR.seq ?_
          refine WR.region rfl ?_
          refine S.moveT rfl ?_
          refine S.moveT rfl ?_
          refine S.moveT rfl ?_
          refine S.call ent15 rfl (s_clamp hS44 ) rfl ?_
          rintro _ w93 ⟨rfl, hS93⟩
          clear hS44
          refine S.moveT rfl ?_
          refine S.eql rfl rfl rfl ?_
          refine S.isTD (d := 95) rfl (by omega) ?_
          refine S.assignT rfl ?_
          refine WS.done ?_
          refine WR.ret (ret1 rfl rfl ?_)
          exact ⟨rfl, hS93⟩
        ·
          skip
          refine WR.skip ?_
          refine WR.seq ?_
          refine WR.region rfl ?_
          refine S.moveT rfl ?_
          refine S.moveT rfl ?_
          refine S.moveT rfl ?_
          refine S.call ent15 rfl (s_clamp hS44 ) rfl ?_
          rintro _ w93 ⟨rfl, hS93⟩
          clear hS44
          refine S.moveT rfl ?_
          refine S.eql rfl rfl rfl ?_
          refine S.isTD (d := 95) rfl (by omega) ?_
          refine S.assignT rfl ?_
          refine WS.done ?_
          refine WR.ret (ret1 rfl rfl ?_)
          exact ⟨rfl, hS93⟩
      ·
        skip
        refine WR.skip ?_
        refine WR.seq ?_
        refine WR.seq ?_
        refine WR.region rfl ?_
        refine S.moveT rfl ?_
        refine S.moveT rfl ?_
        refine S.gtr rfl rfl rfl ?_
        refine WS.done ?_
        refine WR.condD rfl (fun c88 => ?_) (fun c88 => ?_)
        ·
          skip
          refine WR.region rfl ?_
          refine S.moveT rfl ?_
          refine S.assignT rfl ?_
          refine WS.done ?_
          refine WR.seq ?_
          refine WR.region rfl ?_
          refine S.moveT rfl ?_
          refine S.moveT rfl ?_
          refine S.moveT rfl ?_
          refine S.call ent15 rfl (s_clamp hS44 ) rfl ?_
          rintro _ w93 ⟨rfl, hS93⟩
          clear hS44
          refine S.moveT rfl ?_
          refine S.eql rfl rfl rfl ?_
          refine S.isTD (d := 95) rfl (by omega) ?_
          refine S.assignT rfl ?_
          refine WS.done ?_
          refine WR.ret (ret1 rfl rfl ?_)
          exact ⟨rfl, hS93⟩
        ·
          skip
          refine WR.skip ?_
          refine WR.seq ?_
          refine WR.region rfl ?_
          refine S.moveT rfl ?_
          refine S.moveT rfl ?_
          refine S.moveT rfl ?_
          refine S.call ent15 rfl (s_clamp hS44 ) rfl ?_
          rintro _ w93 ⟨rfl, hS93⟩
          clear hS44
          refine S.moveT rfl ?_
          refine S.eql rfl rfl rfl ?_
          refine S.isTD (d := 95) rfl (by omega) ?_
          refine S.assignT rfl ?_
          refine WS.done ?_
          refine WR.ret (ret1 rfl rfl ?_)
          exact ⟨rfl, hS93⟩
  ·
    skip
    refine WR.skip ?_
    refine WR.seq ?_
    refine WR.region rfl ?_
    refine S.moveT rfl ?_
    refine S.moveT rfl ?_
    refine S.call ent13 rfl (s_mul hS23 (by assumption) (by assumption)) rfl ?_
    rintro _ w44 ⟨rfl, hS44⟩
    clear hS23
    refine S.moveT rfl ?_
    refine S.extract rfl rfl rfl ?_
    refine S.extract rfl rfl rfl ?_
    refine S.assignT rfl ?_
    refine S.assignT rfl ?_
    refine WS.done ?_
    refine WR.seq ?_
    refine WR.seq ?_
    refine WR.region rfl ?_
    refine S.moveT rfl ?_
    refine S.eql rfl rfl rfl ?_
    refine S.moveT rfl ?_
    refine S.splitD (d := 49) rfl (fun c49 => ?_) (fun c49 => ?_)
    ·
      skip
      refine S.moveT rfl ?_
      refine S.gtr rfl rfl rfl ?_
      refine S.pickT rfl rfl ?_
      refine WS.done ?_
      refine WR.condD rfl (fun c52 => ?_) (fun c52 => ?_)
      ·
        skip
        refine WR.seq ?_
        refine WR.region rfl ?_
        have hf2 := told_ok c49
        refine S.as (d := 11) rfl (congrArg (Value.int .i64) (if_pos hf2)) ?_
        refine S.moveT rfl ?_
        refine S.moveT rfl ?_
        refine S.call ent14 rfl (s_ratio hS44 (by exact hf2) (by decide) (by exact hb)) rfl ?_
        rintro _ w56 ⟨rfl, hS56⟩
        clear hS44
        refine S.as (d := 56) rfl (back_tup c52 ha) ?_
        refine S.moveT rfl ?_
        refine S.extract rfl rfl rfl ?_
        refine S.extract rfl rfl rfl ?_
        refine S.assignT rfl ?_
        refine S.assignT rfl ?_
        refine WS.done ?_
        refine WR.seq ?_
        refine WR.region rfl ?_
        refine S.moveT rfl ?_
        refine S.moveT rfl ?_
        refine S.call ent14 rfl (s_ratio hS56 (by exact hf2) (by decide) (by exact hb)) rfl ?_
        rintro _ w62 ⟨rfl, hS62⟩
        clear hS56
        refine S.as (d := 62) rfl (back_tup c52 ha) ?_
        refine S.moveT rfl ?_
        refine S.extract rfl rfl rfl ?_
        refine S.extract rfl rfl rfl ?_
        refine S.assignT rfl ?_
        refine S.assignT rfl ?_
        refine WS.done ?_
        refine WR.seq ?_
        refine WR.region rfl ?_
        refine S.moveT rfl ?_
        refine S.neq rfl rfl rfl ?_
        refine S.isFD (d := 66) rfl (by exact fun h => h rfl) ?_
        refine S.moveT rfl ?_
        refine S.moveT rfl ?_
        refine S.neq rfl rfl rfl ?_
        refine S.isFD (d := 69) rfl (by exact fun h => h rfl) ?_
        refine S.pickF rfl rfl ?_
        refine S.moveT rfl ?_
        refine S.moveT rfl ?_
        refine S.moveT rfl ?_
        refine S.neq rfl rfl rfl ?_
        refine S.isFD (d := 74) rfl (by exact fun h => h rfl) ?_
        refine S.pickF rfl rfl ?_
        refine S.moveT rfl ?_
        refine S.moveT rfl ?_
        refine S.moveT rfl ?_
        refine S.neq rfl rfl rfl ?_
        refine S.isFD (d := 79) rfl (by exact fun h => h rfl) ?_
        refine S.pickF rfl rfl ?_
        refine WS.done ?_
        refine WR.condF rfl ?_
        refine WR.skip ?_
        refine WR.seq ?_
        refine WR.region rfl ?_
        refine S.moveT rfl ?_
        refine S.assignT rfl ?_
        refine WS.done ?_
        refine WR.seq ?_
        refine WR.seq ?_
        refine WR.region rfl ?_
        refine S.moveT rfl ?_
        refine S.moveT rfl ?_
        refine S.lss rfl rfl rfl ?_
        refine WS.done ?_
        refine WR.condD rfl (fun c84 => ?_) (fun c84 => ?_)
        ·
          skip
          refine WR.region rfl ?_
          refine S.moveT rfl ?_
          refine S.assignT rfl ?_
          refine WS.done ?_
          refine WR.seq ?_
          refine WR.seq ?_
          refine WR.region rfl ?_
          refine S.moveT rfl ?_
          refine S.moveT rfl ?_
          refine S.gtr rfl rfl rfl ?_
          refine WS.done ?_
          refine WR.condD rfl (fun c88 => ?_) (fun c88 => ?_)
          ·
            skip
            refine WR.region rfl ?_
            refine S.moveT rfl ?_
            refine S.assignT rfl ?_
            refine WS.done ?_
            refine WR.seq ?_
            refine WR.region rfl ?_
            refine S.moveT rfl ?_
            refine S.moveT rfl ?_
            refine S.moveT rfl ?_
            refine S.call ent15 rfl (s_clamp hS62 ) rfl ?_
            rintro _ w93 ⟨rfl, hS93⟩
            clear hS62
            refine S.moveT rfl ?_
            refine S.eql rfl rfl rfl ?_
            refine S.isTD (d := 95) rfl (by omega) ?_
            refine S.assignT rfl ?_
            refine WS.done ?_
            refine WR.ret (ret1 rfl rfl ?_)
            exact ⟨rfl, hS93⟩
          ·
            skip
            refine WR.skip ?_
            refine WR.seq ?_
            refine WR.region rfl ?_
            refine S.moveT rfl ?_
            refine S.moveT rfl ?_
            refine S.moveT rfl ?_
            refine S.call ent15 rfl (s_clamp hS62 ) rfl ?_
            rintro _ w93 ⟨rfl, hS93⟩
            clear hS62
            refine S.moveT rfl ?_
            refine S.eql rfl rfl rfl ?_
            refine S.isTD (d := 95) rfl (by omega) ?_
            refine S.assignT rfl ?_
            refine WS.done ?_
            refine WR.ret (ret1 rfl rfl ?_)
            exact ⟨rfl, hS93⟩
        ·
          skip
          refine WR.skip ?_
          refine WR.seq ?_
          refine WR.seq ?_
          refine WR.region rfl ?_
          refine S.moveT rfl ?_
          refine S.moveT rfl ?_
          refine S.gtr rfl rfl rfl ?_
          refine WS.done ?_
          refine WR.condD rfl (fun c88 => ?_) (fun c88 => ?_)
          ·
            skip
            refine WR.region rfl ?_
            refine S.moveT rfl ?_
            refine S.assignT rfl ?_
            refine WS.done ?_
            refine WR.seq ?_
            refine WR.region rfl ?_
            refine S.moveT rfl ?_
            refine S.moveT rfl ?_
            refine S.moveT rfl ?_
            refine S.call ent15 rfl (s_clamp hS62 ) rfl ?_
            rintro _ w93 ⟨rfl, hS93⟩
            clear hS62
            refine S.moveT rfl ?_
            refine S.eql rfl rfl rfl ?_
            refine S.isTD (d := 95) rfl (by omega) ?_
            refine S.assignT rfl ?_
            refine WS.done ?_
            refine WR.ret (ret1 rfl rfl ?_)
            exact ⟨rfl, hS93⟩
          ·
            skip
            refine WR.skip ?_
            refine WR.seq ?_
            refine WR.region rfl ?_
            refine S.moveT rfl ?_
            refine S.moveT rfl ?_
            refine S.moveT rfl ?_
            refine S.call ent15 rfl (s_clamp hS62 ) rfl ?_
            rintro _ w93 ⟨rfl, hS93⟩
            clear hS62
            refine S.moveT rfl ?_
            refine S.eql rfl rfl rfl ?_
            refine S.isTD (d := 95) rfl (by omega) ?_
            refine S.assignT rfl ?_
            refine WS.done ?_
            refine WR.ret (ret1 rfl rfl ?_)
            exact ⟨rfl, hS93⟩
      ·
        skip
        refine WR.skip ?_
        refine WR.seq ?_
        refine WR.region rfl ?_
        refine S.moveT rfl ?_
        refine S.assignT rfl ?_
        refine WS.done ?_
        refine WR.seq ?_
        refine WR.seq ?_
        refine WR.region rfl ?_
        refine S.moveT rfl ?_
        refine S.moveT rfl ?_
        refine S.lss rfl rfl rfl ?_
        refine WS.done ?_
        refine WR.condD rfl (fun c84 => ?_) (fun c84 => ?_)
        ·
          skip
          refine WR.region rfl ?_
          refine S.moveT rfl ?_
          refine S.assignT rfl ?_
          refine WS.done ?_
          refine WR.seq ?_
          refine WR.seq ?_
          refine WR.region rfl ?_
          refine S.moveT rfl ?_
          refine S.moveT rfl ?_
          refine S.gtr rfl rfl rfl ?_
          refine WS.done ?_
          refine WR.condD rfl (fun c88 => ?_) (fun c88 => ?_)
          ·
            skip
            refine WR.region rfl ?_
            refine S.moveT rfl ?_
            refine S.assignT rfl ?_
            refine WS.done ?_
            refine WR.seq ?_
            refine WR.region rfl ?_
            refine S.moveT rfl ?_
            refine S.moveT rfl ?_
            refine S.moveT rfl ?_
            refine S.call ent15 rfl (s_clamp hS44 ) rfl ?_
            rintro _ w93 ⟨rfl, hS93⟩
            clear hS44
            refine S.moveT rfl ?_
            refine S.eql rfl rfl rfl ?_
            refine S.isTD (d := 95) rfl (by omega) ?_
            refine S.assignT rfl ?_
            refine WS.done ?_
            refine WR.ret (ret1 rfl rfl ?_)
            exact ⟨rfl, hS93⟩
          ·
            skip
            refine WR.skip ?_
            refine WR.seq ?_
            refine WR.region rfl ?_
            refine S.moveT rfl ?_
            refine S.moveT rfl ?_
            refine S.moveT rfl ?_
            refine S.call ent15 rfl (s_clamp hS44 ) rfl ?_
            rintro _ w93 ⟨rfl, hS93⟩
            clear hS44
            refine S.moveT rfl ?_
            refine S.eql rfl rfl rfl ?_
            refine S.isTD (d := 95) rfl (by omega) ?_
            refine S.assignT rfl ?_
            refine WS.done ?_
            refine WR.ret (ret1 rfl rfl ?_)
            exact ⟨rfl, hS93⟩
        ·
          skip
          refine WR.skip ?_
          refine WR.seq ?_
          refine WR.seq ?_
          refine WR.region rfl ?_
          refine S.moveT rfl ?_
          refine S.moveT rfl ?_
          refine S.gtr rfl rfl rfl ?_
          refine WS.done ?_
          refine WR.condD rfl (fun c88 => ?_) (fun c88 => ?_)
          ·
            skip
            refine WR.region rfl ?_
            refine S.moveT rfl ?_
            refine S.assignT rfl ?_
            refine WS.done ?_
            refine WR.seq ?_
            refine WR.region rfl ?_
            refine S.moveT rfl ?_
            refine S.moveT rfl ?_
            refine S.moveT rfl ?_
            refine S.call ent15 rfl (s_clamp hS44 ) rfl ?_
            rintro _ w93 ⟨rfl, hS93⟩
            clear hS44
            refine S.moveT rfl ?_
            refine S.eql rfl rfl rfl ?_
            refine S.isTD (d := 95) rfl (by omega) ?_
            refine S.assignT rfl ?_
            refine WS.done ?_
            refine WR.ret (ret1 rfl rfl ?_)
            exact ⟨rfl, hS93⟩
          ·
            skip
            refine WR.skip ?_
            refine WR.seq ?_
            refine WR.region rfl ?_
            refine S.moveT rfl ?_
            refine S.moveT rfl ?_
            refine S.moveT rfl ?_
            refine S.call ent15 rfl (s_clamp hS44 ) rfl ?_
            rintro _ w93 ⟨rfl, hS93⟩
            clear hS44
            refine S.moveT rfl ?_
            refine S.eql rfl rfl rfl ?_
            refine S.isTD (d := 95) rfl (by omega) ?_
            refine S.assignT rfl ?_
            refine WS.done ?_
            refine WR.ret (ret1 rfl rfl ?_)
            exact ⟨rfl, hS93⟩
    ·
      skip
      refine S.off rfl ?_
      refine S.off rfl ?_
      refine S.pickFC rfl rfl ?_
      refine WS.done ?_
      refine WR.condF rfl ?_
      refine WR.skip ?_
      refine WR.seq ?_
      refine WR.region rfl ?_
      refine S.moveT rfl ?_
      refine S.assignT rfl ?_
      refine WS.done ?_
      refine WR.seq ?_
      refine WR.seq ?_
      refine WR.region rfl ?_
      refine S.moveT rfl ?_
      refine S.moveT rfl ?_
      refine S.lss rfl rfl rfl ?_
      refine WS.done ?_
      refine WR.condD rfl (fun c84 => ?_) (fun c84 => ?_)
      ·
        skip
        refine WR.region rfl ?_
        refine S.moveT rfl ?_
        refine S.assignT rfl ?_
        refine WS.done ?_
        refine WR.seq ?_
        refine WR.seq ?_
        refine WR.region rfl ?_
        refine S.moveT rfl ?_
        refine S.moveT rfl ?_
        refine S.gtr rfl rfl rfl ?_
        refine WS.done ?_
        refine WR.condD rfl (fun c88 => ?_) (fun c88 => ?_)
        ·
          skip
          refine WR.region rfl ?_
          refine S.moveT rfl ?_
          refine S.assignT rfl ?_
          refine WS.done ?_
          refine WR.seq ?_
          refine WR.region rfl ?_
          refine S.moveT rfl ?_
          refine S.moveT rfl ?_
          refine S.moveT rfl ?_
          refine S.call ent15 rfl (s_clamp hS44 ) rfl ?_
          rintro _ w93 ⟨rfl, hS93⟩
          clear hS44
          refine S.moveT rfl ?_
          refine S.eql rfl rfl rfl ?_
          refine S.isTD (d := 95) rfl (by omega) ?_
          refine S.assignT rfl ?_
          refine WS.done ?_
          refine WR.ret (ret1 rfl rfl ?_)
          exact ⟨rfl, hS93⟩
        ·
          skip
          refine WR.skip ?_
          refine WR.seq ?_
          refine WR.region rfl ?_
          refine S.moveT rfl ?_
          refine S.moveT rfl ?_
          refine S.moveT rfl ?_
          refine S.call ent15 rfl (s_clamp hS44 ) rfl ?_
          rintro _ w93 ⟨rfl, hS93⟩
          clear hS44
          refine S.moveT rfl ?_
          refine S.eql rfl rfl rfl ?_
          refine S.isTD (d := 95) rfl (by omega) ?_
          refine S.assignT rfl ?_
          refine WS.done ?_
          refine WR.ret (ret1 rfl rfl ?_)
          exact ⟨rfl, hS93⟩
      ·
        skip
        refine WR.skip ?_
        refine WR.seq ?_
        refine WR.seq ?_
        refine WR.region rfl ?_
        refine S.moveT rfl ?_
        refine S.moveT rfl ?_
        refine S.gtr rfl rfl rfl ?_
        refine WS.done ?_
        refine WR.condD rfl (fun c88 => ?_) (fun c88 => ?_)
        ·
          skip
          refine WR.region rfl ?_
          refine S.moveT rfl ?_
          refine S.assignT rfl ?_
          refine WS.done ?_
          refine WR.seq ?_
          refine WR.region rfl ?_
          refine S.moveT rfl ?_
          refine S.moveT rfl ?_
          refine S.moveT rfl ?_
          refine S.call ent15 rfl (s_clamp hS44 ) rfl ?_
          rintro _ w93 ⟨rfl, hS93⟩
          clear hS44
          refine S.moveT rfl ?_
          refine S.eql rfl rfl rfl ?_
          refine S.isTD (d := 95) rfl (by omega) ?_
          refine S.assignT rfl ?_
          refine WS.done ?_
          refine WR.ret (ret1 rfl rfl ?_)
          exact ⟨rfl, hS93⟩
        ·
          skip
          refine WR.skip ?_
          refine WR.seq ?_
          refine WR.region rfl ?_
          refine S.moveT rfl ?_
          refine S.moveT rfl ?_
          refine S.moveT rfl ?_
          refine S.call ent15 rfl (s_clamp hS44 ) rfl ?_
          rintro _ w93 ⟨rfl, hS93⟩
          clear hS44
          refine S.moveT rfl ?_
          refine S.eql rfl rfl rfl ?_
          refine S.isTD (d := 95) rfl (by omega) ?_
          refine S.assignT rfl ?_
          refine WS.done ?_
          refine WR.ret (ret1 rfl rfl ?_)
          exact ⟨rfl, hS93⟩

set_option maxRecDepth 100000 in
set_option maxHeartbeats 4000000 in
theorem law_SafeRises {w : World} {R : Kn} {L : List HP} (hS : St w R (L)) {a b c d : Int} (ha : fits a) (hb : fits b) (hc : fits c) (hd : fits d) :
    Fn Try.prog 5 #[.int .i64 a, .int .i64 b, .int .i64 c, .int .i64 d] w (fun v w' => v = .bool true ∧ St w' R L) := by
  refine Fn.intro (n := 100) Try.func5 rfl rfl rfl ?_
  refine WR.seq ?_
  refine WR.region rfl ?_
  refine S.assignC rfl ?_
  refine WS.done ?_
  refine WR.seq ?_
  refine WR.seq ?_
  refine WR.region rfl ?_
  refine S.call ent6 rfl (law_alive hS ) rfl ?_
  rintro _ w13 ⟨rfl, hS13⟩
  clear hS
  refine S.not rfl rfl ?_
  refine WS.done ?_
  refine WR.condF rfl ?_
  refine WR.skip ?_
  refine WR.seq ?_
  refine WR.seq ?_
  refine WR.region rfl ?_
  refine S.moveT rfl ?_
  refine S.moveT rfl ?_
  refine S.gtr rfl rfl rfl ?_
  refine WS.done ?_
  refine WR.condD rfl (fun c17 => ?_) (fun c17 => ?_)
  ·
    skip
    refine WR.seq ?_
    refine WR.region rfl ?_
    refine S.assignC rfl ?_
    refine WS.done ?_
    refine WR.ret (ret1 rfl rfl ?_)
    exact ⟨rfl, hS13⟩
  ·
    skip
    refine WR.skip ?_
    refine WR.seq ?_
    refine WR.region rfl ?_
    refine S.moveT rfl ?_
    refine S.moveT rfl ?_
    refine S.call ent11 rfl (s_add hS13 (by assumption) (by assumption)) rfl ?_
    rintro _ w21 ⟨rfl, hS21⟩
    clear hS13
    refine S.moveT rfl ?_
    refine S.extract rfl rfl rfl ?_
    refine S.extract rfl rfl rfl ?_
    refine S.assignT rfl ?_
    refine S.assignT rfl ?_
    refine WS.done ?_
    refine WR.seq ?_
    refine WR.region rfl ?_
    refine S.moveT rfl ?_
    refine S.moveT rfl ?_
    refine S.call ent11 rfl (s_add hS21 (by assumption) (by assumption)) rfl ?_
    rintro _ w27 ⟨rfl, hS27⟩
    clear hS21
    refine S.moveT rfl ?_
    refine S.extract rfl rfl rfl ?_
    refine S.extract rfl rfl rfl ?_
    refine S.assignT rfl ?_
    refine S.assignT rfl ?_
    refine WS.done ?_
    refine WR.seq ?_
    refine WR.seq ?_
    refine WR.region rfl ?_
    refine S.moveT rfl ?_
    refine S.eql rfl rfl rfl ?_
    refine S.moveT rfl ?_
    refine S.splitD (d := 32) rfl (fun c32 => ?_) (fun c32 => ?_)
    ·
      skip
      refine S.moveT rfl ?_
      refine S.eql rfl rfl rfl ?_
      refine S.pickT rfl rfl ?_
      refine S.moveT rfl ?_
      refine S.splitD (d := 36) rfl (fun c36 => ?_) (fun c36 => ?_)
      ·
        skip
        refine S.moveT rfl ?_
        refine S.moveT rfl ?_
        refine S.gtr rfl rfl rfl ?_
        refine S.isFD (d := 39) rfl (by exact rises c32 c36 (by omega)) ?_
        refine S.pickT rfl rfl ?_
        refine WS.done ?_
        refine WR.condF rfl ?_
        refine WR.skip ?_
        refine WR.seq ?_
        refine WR.region rfl ?_
        refine S.moveT rfl ?_
        refine S.moveT rfl ?_
        refine S.call ent12 rfl (s_sub hS27 (by assumption) (by assumption)) rfl ?_
        rintro _ w44 ⟨rfl, hS44⟩
        clear hS27
        refine S.moveT rfl ?_
        refine S.extract rfl rfl rfl ?_
        refine S.extract rfl rfl rfl ?_
        refine S.assignT rfl ?_
        refine S.assignT rfl ?_
        refine WS.done ?_
        refine WR.seq ?_
        refine WR.region rfl ?_
        refine S.moveT rfl ?_
        refine S.moveT rfl ?_
        refine S.call ent12 rfl (s_sub hS44 (by assumption) (by assumption)) rfl ?_
        rintro _ w50 ⟨rfl, hS50⟩
        clear hS44
        refine S.moveT rfl ?_
        refine S.extract rfl rfl rfl ?_
        refine S.extract rfl rfl rfl ?_
        refine S.assignT rfl ?_
        refine S.assignT rfl ?_
        refine WS.done ?_
        refine WR.seq ?_
        refine WR.seq ?_
        refine WR.region rfl ?_
        refine S.moveT rfl ?_
        refine S.eql rfl rfl rfl ?_
        refine S.moveT rfl ?_
        refine S.splitD (d := 55) rfl (fun c55 => ?_) (fun c55 => ?_)
        ·
          skip
          refine S.moveT rfl ?_
          refine S.eql rfl rfl rfl ?_
          refine S.pickT rfl rfl ?_
          refine S.moveT rfl ?_
          refine S.splitD (d := 59) rfl (fun c59 => ?_) (fun c59 => ?_)
          ·
            skip
            refine S.moveT rfl ?_
            refine S.moveT rfl ?_
            refine S.gtr rfl rfl rfl ?_
            refine S.isFD (d := 62) rfl (by exact rises c55 c59 (by omega)) ?_
            refine S.pickT rfl rfl ?_
            refine WS.done ?_
            refine WR.condF rfl ?_
            refine WR.skip ?_
            refine WR.seq ?_
            refine WR.seq ?_
            refine WR.region rfl ?_
            refine S.moveT rfl ?_
            refine S.lss rfl rfl rfl ?_
            refine WS.done ?_
            refine WR.condD rfl (fun c65 => ?_) (fun c65 => ?_)
            ·
              skip
              refine WR.seq ?_
              refine WR.region rfl ?_
              refine S.moveT rfl ?_
              refine S.moveT rfl ?_
              refine S.moveT rfl ?_
              refine S.call ent15 rfl (s_clamp hS50 ) rfl ?_
              rintro _ w69 ⟨rfl, hS69⟩
              clear hS50
              refine S.moveT rfl ?_
              refine S.moveT rfl ?_
              refine S.moveT rfl ?_
              refine S.call ent15 rfl (s_clamp hS69 ) rfl ?_
              rintro _ w73 ⟨rfl, hS73⟩
              clear hS69
              refine S.leq rfl rfl rfl ?_
              refine S.isTD (d := 74) rfl (by omega) ?_
              refine S.assignT rfl ?_
              refine WS.done ?_
              refine WR.ret (ret1 rfl rfl ?_)
              exact ⟨rfl, hS73⟩
            ·
              skip
              refine WR.skip ?_
              refine WR.seq ?_
              refine WR.region rfl ?_
              refine S.moveT rfl ?_
              refine S.moveT rfl ?_
              refine S.moveT rfl ?_
              refine S.call ent14 rfl (s_ratio hS50 (by assumption) (by assumption) (by assumption)) rfl ?_
              rintro _ w79 ⟨rfl, hS79⟩
              clear hS50
              refine S.as (d := 79) rfl ratio_tup ?_
              refine S.moveT rfl ?_
              refine S.extract rfl rfl rfl ?_
              refine S.extract rfl rfl rfl ?_
              refine S.assignT rfl ?_
              refine S.assignT rfl ?_
              refine WS.done ?_
              refine WR.seq ?_
              refine WR.region rfl ?_
              refine S.moveT rfl ?_
              refine S.moveT rfl ?_
              refine S.moveT rfl ?_
              refine S.call ent14 rfl (s_ratio hS79 (by assumption) (by assumption) (by assumption)) rfl ?_
              rintro _ w86 ⟨rfl, hS86⟩
              clear hS79
              refine S.as (d := 86) rfl ratio_tup ?_
              refine S.moveT rfl ?_
              refine S.extract rfl rfl rfl ?_
              refine S.extract rfl rfl rfl ?_
              refine S.assignT rfl ?_
              refine S.assignT rfl ?_
              refine WS.done ?_
              refine WR.seq ?_
              refine WR.region rfl ?_
              refine S.moveT rfl ?_
              refine S.neq rfl rfl rfl ?_
              refine S.moveT rfl ?_
              refine S.splitD (d := 91) rfl (fun c91 => ?_) (fun c91 => ?_)
              ·
                skip
                refine S.off rfl ?_
                refine S.off rfl ?_
                refine S.pickTC rfl rfl ?_
                refine S.moveT rfl ?_
                refine S.off rfl ?_
                refine S.off rfl ?_
                refine S.off rfl ?_
                refine S.pickTC rfl rfl ?_
                refine S.assignT rfl ?_
                refine WS.done ?_
                refine WR.ret (ret1 rfl rfl ?_)
                exact ⟨rfl, hS86⟩
              ·
                skip
                refine S.moveT rfl ?_
                refine S.neq rfl rfl rfl ?_
                refine S.pickF rfl rfl ?_
                refine S.moveT rfl ?_
                refine S.splitD (d := 95) rfl (fun c95 => ?_) (fun c95 => ?_)
                ·
                  skip
                  refine S.off rfl ?_
                  refine S.off rfl ?_
                  refine S.off rfl ?_
                  refine S.pickTC rfl rfl ?_
                  refine S.assignT rfl ?_
                  refine WS.done ?_
                  refine WR.ret (ret1 rfl rfl ?_)
                  exact ⟨rfl, hS86⟩
                ·
                  skip
                  refine S.moveT rfl ?_
                  refine S.moveT rfl ?_
                  refine S.leq rfl rfl rfl ?_
                  refine S.isTD (d := 98) rfl (by exact rises_q c91 c95 (by omega) (by omega)) ?_
                  refine S.pickF rfl rfl ?_
                  refine S.assignT rfl ?_
                  refine WS.done ?_
                  refine WR.ret (ret1 rfl rfl ?_)
                  exact ⟨rfl, hS86⟩
          ·
            skip
            refine S.off rfl ?_
            refine S.off rfl ?_
            refine S.off rfl ?_
            refine S.pickFC rfl rfl ?_
            refine WS.done ?_
            refine WR.condF rfl ?_
            refine WR.skip ?_
            refine WR.seq ?_
            refine WR.seq ?_
            refine WR.region rfl ?_
            refine S.moveT rfl ?_
            refine S.lss rfl rfl rfl ?_
            refine WS.done ?_
            refine WR.condD rfl (fun c65 => ?_) (fun c65 => ?_)
            ·
              skip
              refine WR.seq ?_
              refine WR.region rfl ?_
              refine S.moveT rfl ?_
              refine S.moveT rfl ?_
              refine S.moveT rfl ?_
              refine S.call ent15 rfl (s_clamp hS50 ) rfl ?_
              rintro _ w69 ⟨rfl, hS69⟩
              clear hS50
              refine S.moveT rfl ?_
              refine S.moveT rfl ?_
              refine S.moveT rfl ?_
              refine S.call ent15 rfl (s_clamp hS69 ) rfl ?_
              rintro _ w73 ⟨rfl, hS73⟩
              clear hS69
              refine S.leq rfl rfl rfl ?_
              refine S.isTD (d := 74) rfl (by omega) ?_
              refine S.assignT rfl ?_
              refine WS.done ?_
              refine WR.ret (ret1 rfl rfl ?_)
              exact ⟨rfl, hS73⟩
            ·
              skip
              refine WR.skip ?_
              refine WR.seq ?_
              refine WR.region rfl ?_
              refine S.moveT rfl ?_
              refine S.moveT rfl ?_
              refine S.moveT rfl ?_
              refine S.call ent14 rfl (s_ratio hS50 (by assumption) (by assumption) (by assumption)) rfl ?_
              rintro _ w79 ⟨rfl, hS79⟩
              clear hS50
              refine S.as (d := 79) rfl ratio_tup ?_
              refine S.moveT rfl ?_
              refine S.extract rfl rfl rfl ?_
              refine S.extract rfl rfl rfl ?_
              refine S.assignT rfl ?_
              refine S.assignT rfl ?_
              refine WS.done ?_
              refine WR.seq ?_
              refine WR.region rfl ?_
              refine S.moveT rfl ?_
              refine S.moveT rfl ?_
              refine S.moveT rfl ?_
              refine S.call ent14 rfl (s_ratio hS79 (by assumption) (by assumption) (by assumption)) rfl ?_
              rintro _ w86 ⟨rfl, hS86⟩
              clear hS79
              refine S.as (d := 86) rfl ratio_tup ?_
              refine S.moveT rfl ?_
              refine S.extract rfl rfl rfl ?_
              refine S.extract rfl rfl rfl ?_
              refine S.assignT rfl ?_
              refine S.assignT rfl ?_
              refine WS.done ?_
              refine WR.seq ?_
              refine WR.region rfl ?_
              refine S.moveT rfl ?_
              refine S.neq rfl rfl rfl ?_
              refine S.moveT rfl ?_
              refine S.splitD (d := 91) rfl (fun c91 => ?_) (fun c91 => ?_)
              ·
                skip
                refine S.off rfl ?_
                refine S.off rfl ?_
                refine S.pickTC rfl rfl ?_
                refine S.moveT rfl ?_
                refine S.off rfl ?_
                refine S.off rfl ?_
                refine S.off rfl ?_
                refine S.pickTC rfl rfl ?_
                refine S.assignT rfl ?_
                refine WS.done ?_
                refine WR.ret (ret1 rfl rfl ?_)
                exact ⟨rfl, hS86⟩
              ·
                skip
                refine S.moveT rfl ?_
                refine S.neq rfl rfl rfl ?_
                refine S.pickF rfl rfl ?_
                refine S.moveT rfl ?_
                refine S.splitD (d := 95) rfl (fun c95 => ?_) (fun c95 => ?_)
                ·
                  skip
                  refine S.off rfl ?_
                  refine S.off rfl ?_
                  refine S.off rfl ?_
                  refine S.pickTC rfl rfl ?_
                  refine S.assignT rfl ?_
                  refine WS.done ?_
                  refine WR.ret (ret1 rfl rfl ?_)
                  exact ⟨rfl, hS86⟩
                ·
                  skip
                  refine S.moveT rfl ?_
                  refine S.moveT rfl ?_
                  refine S.leq rfl rfl rfl ?_
                  refine S.isTD (d := 98) rfl (by exact rises_q c91 c95 (by omega) (by omega)) ?_
                  refine S.pickF rfl rfl ?_
                  refine S.assignT rfl ?_
                  refine WS.done ?_
                  refine WR.ret (ret1 rfl rfl ?_)
                  exact ⟨rfl, hS86⟩
        ·
          skip
          refine S.off rfl ?_
          refine S.off rfl ?_
          refine S.pickFC rfl rfl ?_
          refine S.moveT rfl ?_
          refine S.off rfl ?_
          refine S.off rfl ?_
          refine S.off rfl ?_
          refine S.pickFC rfl rfl ?_
          refine WS.done ?_
          refine WR.condF rfl ?_
          refine WR.skip ?_
          refine WR.seq ?_
          refine WR.seq ?_
          refine WR.region rfl ?_
          refine S.moveT rfl ?_
          refine S.lss rfl rfl rfl ?_
          refine WS.done ?_
          refine WR.condD rfl (fun c65 => ?_) (fun c65 => ?_)
          ·
            skip
            refine WR.seq ?_
            refine WR.region rfl ?_
            refine S.moveT rfl ?_
            refine S.moveT rfl ?_
            refine S.moveT rfl ?_
            refine S.call ent15 rfl (s_clamp hS50 ) rfl ?_
            rintro _ w69 ⟨rfl, hS69⟩
            clear hS50
            refine S.moveT rfl ?_
            refine S.moveT rfl ?_
            refine S.moveT rfl ?_
            refine S.call ent15 rfl (s_clamp hS69 ) rfl ?_
            rintro _ w73 ⟨rfl, hS73⟩
            clear hS69
            refine S.leq rfl rfl rfl ?_
            refine S.isTD (d := 74) rfl (by omega) ?_
            refine S.assignT rfl ?_
            refine WS.done ?_
            refine WR.ret (ret1 rfl rfl ?_)
            exact ⟨rfl, hS73⟩
          ·
            skip
            refine WR.skip ?_
            refine WR.seq ?_
            refine WR.region rfl ?_
            refine S.moveT rfl ?_
            refine S.moveT rfl ?_
            refine S.moveT rfl ?_
            refine S.call ent14 rfl (s_ratio hS50 (by assumption) (by assumption) (by assumption)) rfl ?_
            rintro _ w79 ⟨rfl, hS79⟩
            clear hS50
            refine S.as (d := 79) rfl ratio_tup ?_
            refine S.moveT rfl ?_
            refine S.extract rfl rfl rfl ?_
            refine S.extract rfl rfl rfl ?_
            refine S.assignT rfl ?_
            refine S.assignT rfl ?_
            refine WS.done ?_
            refine WR.seq ?_
            refine WR.region rfl ?_
            refine S.moveT rfl ?_
            refine S.moveT rfl ?_
            refine S.moveT rfl ?_
            refine S.call ent14 rfl (s_ratio hS79 (by assumption) (by assumption) (by assumption)) rfl ?_
            rintro _ w86 ⟨rfl, hS86⟩
            clear hS79
            refine S.as (d := 86) rfl ratio_tup ?_
            refine S.moveT rfl ?_
            refine S.extract rfl rfl rfl ?_
            refine S.extract rfl rfl rfl ?_
            refine S.assignT rfl ?_
            refine S.assignT rfl ?_
            refine WS.done ?_
            refine WR.seq ?_
            refine WR.region rfl ?_
            refine S.moveT rfl ?_
            refine S.neq rfl rfl rfl ?_
            refine S.moveT rfl ?_
            refine S.splitD (d := 91) rfl (fun c91 => ?_) (fun c91 => ?_)
            ·
              skip
              refine S.off rfl ?_
              refine S.off rfl ?_
              refine S.pickTC rfl rfl ?_
              refine S.moveT rfl ?_
              refine S.off rfl ?_
              refine S.off rfl ?_
              refine S.off rfl ?_
              refine S.pickTC rfl rfl ?_
              refine S.assignT rfl ?_
              refine WS.done ?_
              refine WR.ret (ret1 rfl rfl ?_)
              exact ⟨rfl, hS86⟩
            ·
              skip
              refine S.moveT rfl ?_
              refine S.neq rfl rfl rfl ?_
              refine S.pickF rfl rfl ?_
              refine S.moveT rfl ?_
              refine S.splitD (d := 95) rfl (fun c95 => ?_) (fun c95 => ?_)
              ·
                skip
                refine S.off rfl ?_
                refine S.off rfl ?_
                refine S.off rfl ?_
                refine S.pickTC rfl rfl ?_
                refine S.assignT rfl ?_
                refine WS.done ?_
                refine WR.ret (ret1 rfl rfl ?_)
                exact ⟨rfl, hS86⟩
              ·
                skip
                refine S.moveT rfl ?_
                refine S.moveT rfl ?_
                refine S.leq rfl rfl rfl ?_
                refine S.isTD (d := 98) rfl (by exact rises_q c91 c95 (by omega) (by omega)) ?_
                refine S.pickF rfl rfl ?_
                refine S.assignT rfl ?_
                refine WS.done ?_
                refine WR.ret (ret1 rfl rfl ?_)
                exact ⟨rfl, hS86⟩
      ·
        skip
        refine S.off rfl ?_
        refine S.off rfl ?_
        refine S.off rfl ?_
        refine S.pickFC rfl rfl ?_
        refine WS.done ?_
        refine WR.condF rfl ?_
        refine WR.skip ?_
        refine WR.seq ?_
        refine WR.region rfl ?_
        refine S.moveT rfl ?_
        refine S.moveT rfl ?_
        refine S.call ent12 rfl (s_sub hS27 (by assumption) (by assumption)) rfl ?_
        rintro _ w44 ⟨rfl, hS44⟩
        clear hS27
        refine S.moveT rfl ?_
        refine S.extract rfl rfl rfl ?_
        refine S.extract rfl rfl rfl ?_
        refine S.assignT rfl ?_
        refine S.assignT rfl ?_
        refine WS.done ?_
        refine WR.seq ?_
        refine WR.region rfl ?_
        refine S.moveT rfl ?_
        refine S.moveT rfl ?_
        refine S.call ent12 rfl (s_sub hS44 (by assumption) (by assumption)) rfl ?_
        rintro _ w50 ⟨rfl, hS50⟩
        clear hS44
        refine S.moveT rfl ?_
        refine S.extract rfl rfl rfl ?_
        refine S.extract rfl rfl rfl ?_
        refine S.assignT rfl ?_
        refine S.assignT rfl ?_
        refine WS.done ?_
        refine WR.seq ?_
        refine WR.seq ?_
        refine WR.region rfl ?_
        refine S.moveT rfl ?_
        refine S.eql rfl rfl rfl ?_
        refine S.moveT rfl ?_
        refine S.splitD (d := 55) rfl (fun c55 => ?_) (fun c55 => ?_)
        ·
          skip
          refine S.moveT rfl ?_
          refine S.eql rfl rfl rfl ?_
          refine S.pickT rfl rfl ?_
          refine S.moveT rfl ?_
          refine S.splitD (d := 59) rfl (fun c59 => ?_) (fun c59 => ?_)
          ·
            skip
            refine S.moveT rfl ?_
            refine S.moveT rfl ?_
            refine S.gtr rfl rfl rfl ?_
            refine S.isFD (d := 62) rfl (by exact rises c55 c59 (by omega)) ?_
            refine S.pickT rfl rfl ?_
            refine WS.done ?_
            refine WR.condF rfl ?_
            refine WR.skip ?_
            refine WR.seq ?_
            refine WR.seq ?_
            refine WR.region rfl ?_
            refine S.moveT rfl ?_
            refine S.lss rfl rfl rfl ?_
            refine WS.done ?_
            refine WR.condD rfl (fun c65 => ?_) (fun c65 => ?_)
            ·
              skip
              refine WR.seq ?_
              refine WR.region rfl ?_
              refine S.moveT rfl ?_
              refine S.moveT rfl ?_
              refine S.moveT rfl ?_
              refine S.call ent15 rfl (s_clamp hS50 ) rfl ?_
              rintro _ w69 ⟨rfl, hS69⟩
              clear hS50
              refine S.moveT rfl ?_
              refine S.moveT rfl ?_
              refine S.moveT rfl ?_
              refine S.call ent15 rfl (s_clamp hS69 ) rfl ?_
              rintro _ w73 ⟨rfl, hS73⟩
              clear hS69
              refine S.leq rfl rfl rfl ?_
              refine S.isTD (d := 74) rfl (by omega) ?_
              refine S.assignT rfl ?_
              refine WS.done ?_
              refine WR.ret (ret1 rfl rfl ?_)
              exact ⟨rfl, hS73⟩
            ·
              skip
              refine WR.skip ?_
              refine WR.seq ?_
              refine WR.region rfl ?_
              refine S.moveT rfl ?_
              refine S.moveT rfl ?_
              refine S.moveT rfl ?_
              refine S.call ent14 rfl (s_ratio hS50 (by assumption) (by assumption) (by assumption)) rfl ?_
              rintro _ w79 ⟨rfl, hS79⟩
              clear hS50
              refine S.as (d := 79) rfl ratio_tup ?_
              refine S.moveT rfl ?_
              refine S.extract rfl rfl rfl ?_
              refine S.extract rfl rfl rfl ?_
              refine S.assignT rfl ?_
              refine S.assignT rfl ?_
              refine WS.done ?_
              refine WR.seq ?_
              refine WR.region rfl ?_
              refine S.moveT rfl ?_
              refine S.moveT rfl ?_
              refine S.moveT rfl ?_
              refine S.call ent14 rfl (s_ratio hS79 (by assumption) (by assumption) (by assumption)) rfl ?_
              rintro _ w86 ⟨rfl, hS86⟩
              clear hS79
              refine S.as (d := 86) rfl ratio_tup ?_
              refine S.moveT rfl ?_
              refine S.extract rfl rfl rfl ?_
              refine S.extract rfl rfl rfl ?_
              refine S.assignT rfl ?_
              refine S.assignT rfl ?_
              refine WS.done ?_
              refine WR.seq ?_
              refine WR.region rfl ?_
              refine S.moveT rfl ?_
              refine S.neq rfl rfl rfl ?_
              refine S.moveT rfl ?_
              refine S.splitD (d := 91) rfl (fun c91 => ?_) (fun c91 => ?_)
              ·
                skip
                refine S.off rfl ?_
                refine S.off rfl ?_
                refine S.pickTC rfl rfl ?_
                refine S.moveT rfl ?_
                refine S.off rfl ?_
                refine S.off rfl ?_
                refine S.off rfl ?_
                refine S.pickTC rfl rfl ?_
                refine S.assignT rfl ?_
                refine WS.done ?_
                refine WR.ret (ret1 rfl rfl ?_)
                exact ⟨rfl, hS86⟩
              ·
                skip
                refine S.moveT rfl ?_
                refine S.neq rfl rfl rfl ?_
                refine S.pickF rfl rfl ?_
                refine S.moveT rfl ?_
                refine S.splitD (d := 95) rfl (fun c95 => ?_) (fun c95 => ?_)
                ·
                  skip
                  refine S.off rfl ?_
                  refine S.off rfl ?_
                  refine S.off rfl ?_
                  refine S.pickTC rfl rfl ?_
                  refine S.assignT rfl ?_
                  refine WS.done ?_
                  refine WR.ret (ret1 rfl rfl ?_)
                  exact ⟨rfl, hS86⟩
                ·
                  skip
                  refine S.moveT rfl ?_
                  refine S.moveT rfl ?_
                  refine S.leq rfl rfl rfl ?_
                  refine S.isTD (d := 98) rfl (by exact rises_q c91 c95 (by omega) (by omega)) ?_
                  refine S.pickF rfl rfl ?_
                  refine S.assignT rfl ?_
                  refine WS.done ?_
                  refine WR.ret (ret1 rfl rfl ?_)
                  exact ⟨rfl, hS86⟩
          ·
            skip
            refine S.off rfl ?_
            refine S.off rfl ?_
            refine S.off rfl ?_
            refine S.pickFC rfl rfl ?_
            refine WS.done ?_
            refine WR.condF rfl ?_
            refine WR.skip ?_
            refine WR.seq ?_
            refine WR.seq ?_
            refine WR.region rfl ?_
            refine S.moveT rfl ?_
            refine S.lss rfl rfl rfl ?_
            refine WS.done ?_
            refine WR.condD rfl (fun c65 => ?_) (fun c65 => ?_)
            ·
              skip
              refine WR.seq ?_
              refine WR.region rfl ?_
              refine S.moveT rfl ?_
              refine S.moveT rfl ?_
              refine S.moveT rfl ?_
              refine S.call ent15 rfl (s_clamp hS50 ) rfl ?_
              rintro _ w69 ⟨rfl, hS69⟩
              clear hS50
              refine S.moveT rfl ?_
              refine S.moveT rfl ?_
              refine S.moveT rfl ?_
              refine S.call ent15 rfl (s_clamp hS69 ) rfl ?_
              rintro _ w73 ⟨rfl, hS73⟩
              clear hS69
              refine S.leq rfl rfl rfl ?_
              refine S.isTD (d := 74) rfl (by omega) ?_
              refine S.assignT rfl ?_
              refine WS.done ?_
              refine WR.ret (ret1 rfl rfl ?_)
              exact ⟨rfl, hS73⟩
            ·
              skip
              refine WR.skip ?_
              refine WR.seq ?_
              refine WR.region rfl ?_
              refine S.moveT rfl ?_
              refine S.moveT rfl ?_
              refine S.moveT rfl ?_
              refine S.call ent14 rfl (s_ratio hS50 (by assumption) (by assumption) (by assumption)) rfl ?_
              rintro _ w79 ⟨rfl, hS79⟩
              clear hS50
              refine S.as (d := 79) rfl ratio_tup ?_
              refine S.moveT rfl ?_
              refine S.extract rfl rfl rfl ?_
              refine S.extract rfl rfl rfl ?_
              refine S.assignT rfl ?_
              refine S.assignT rfl ?_
              refine WS.done ?_
              refine WR.seq ?_
              refine WR.region rfl ?_
              refine S.moveT rfl ?_
              refine S.moveT rfl ?_
              refine S.moveT rfl ?_
              refine S.call ent14 rfl (s_ratio hS79 (by assumption) (by assumption) (by assumption)) rfl ?_
              rintro _ w86 ⟨rfl, hS86⟩
              clear hS79
              refine S.as (d := 86) rfl ratio_tup ?_
              refine S.moveT rfl ?_
              refine S.extract rfl rfl rfl ?_
              refine S.extract rfl rfl rfl ?_
              refine S.assignT rfl ?_
              refine S.assignT rfl ?_
              refine WS.done ?_
              refine WR.seq ?_
              refine WR.region rfl ?_
              refine S.moveT rfl ?_
              refine S.neq rfl rfl rfl ?_
              refine S.moveT rfl ?_
              refine S.splitD (d := 91) rfl (fun c91 => ?_) (fun c91 => ?_)
              ·
                skip
                refine S.off rfl ?_
                refine S.off rfl ?_
                refine S.pickTC rfl rfl ?_
                refine S.moveT rfl ?_
                refine S.off rfl ?_
                refine S.off rfl ?_
                refine S.off rfl ?_
                refine S.pickTC rfl rfl ?_
                refine S.assignT rfl ?_
                refine WS.done ?_
                refine WR.ret (ret1 rfl rfl ?_)
                exact ⟨rfl, hS86⟩
              ·
                skip
                refine S.moveT rfl ?_
                refine S.neq rfl rfl rfl ?_
                refine S.pickF rfl rfl ?_
                refine S.moveT rfl ?_
                refine S.splitD (d := 95) rfl (fun c95 => ?_) (fun c95 => ?_)
                ·
                  skip
                  refine S.off rfl ?_
                  refine S.off rfl ?_
                  refine S.off rfl ?_
                  refine S.pickTC rfl rfl ?_
                  refine S.assignT rfl ?_
                  refine WS.done ?_
                  refine WR.ret (ret1 rfl rfl ?_)
                  exact ⟨rfl, hS86⟩
                ·
                  skip
                  refine S.moveT rfl ?_
                  refine S.moveT rfl ?_
                  refine S.leq rfl rfl rfl ?_
                  refine S.isTD (d := 98) rfl (by exact rises_q c91 c95 (by omega) (by omega)) ?_
                  refine S.pickF rfl rfl ?_
                  refine S.assignT rfl ?_
                  refine WS.done ?_
                  refine WR.ret (ret1 rfl rfl ?_)
                  exact ⟨rfl, hS86⟩
        ·
          skip
          refine S.off rfl ?_
          refine S.off rfl ?_
          refine S.pickFC rfl rfl ?_
          refine S.moveT rfl ?_
          refine S.off rfl ?_
          refine S.off rfl ?_
          refine S.off rfl ?_
          refine S.pickFC rfl rfl ?_
          refine WS.done ?_
          refine WR.condF rfl ?_
          refine WR.skip ?_
          refine WR.seq ?_
          refine WR.seq ?_
          refine WR.region rfl ?_
          refine S.moveT rfl ?_
          refine S.lss rfl rfl rfl ?_
          refine WS.done ?_
          refine WR.condD rfl (fun c65 => ?_) (fun c65 => ?_)
          ·
            skip
            refine WR.seq ?_
            refine WR.region rfl ?_
            refine S.moveT rfl ?_
            refine S.moveT rfl ?_
            refine S.moveT rfl ?_
            refine S.call ent15 rfl (s_clamp hS50 ) rfl ?_
            rintro _ w69 ⟨rfl, hS69⟩
            clear hS50
            refine S.moveT rfl ?_
            refine S.moveT rfl ?_
            refine S.moveT rfl ?_
            refine S.call ent15 rfl (s_clamp hS69 ) rfl ?_
            rintro _ w73 ⟨rfl, hS73⟩
            clear hS69
            refine S.leq rfl rfl rfl ?_
            refine S.isTD (d := 74) rfl (by omega) ?_
            refine S.assignT rfl ?_
            refine WS.done ?_
            refine WR.ret (ret1 rfl rfl ?_)
            exact ⟨rfl, hS73⟩
          ·
            skip
            refine WR.skip ?_
            refine WR.seq ?_
            refine WR.region rfl ?_
            refine S.moveT rfl ?_
            refine S.moveT rfl ?_
            refine S.moveT rfl ?_
            refine S.call ent14 rfl (s_ratio hS50 (by assumption) (by assumption) (by assumption)) rfl ?_
            rintro _ w79 ⟨rfl, hS79⟩
            clear hS50
            refine S.as (d := 79) rfl ratio_tup ?_
            refine S.moveT rfl ?_
            refine S.extract rfl rfl rfl ?_
            refine S.extract rfl rfl rfl ?_
            refine S.assignT rfl ?_
            refine S.assignT rfl ?_
            refine WS.done ?_
            refine WR.seq ?_
            refine WR.region rfl ?_
            refine S.moveT rfl ?_
            refine S.moveT rfl ?_
            refine S.moveT rfl ?_
            refine S.call ent14 rfl (s_ratio hS79 (by assumption) (by assumption) (by assumption)) rfl ?_
            rintro _ w86 ⟨rfl, hS86⟩
            clear hS79
            refine S.as (d := 86) rfl ratio_tup ?_
            refine S.moveT rfl ?_
            refine S.extract rfl rfl rfl ?_
            refine S.extract rfl rfl rfl ?_
            refine S.assignT rfl ?_
            refine S.assignT rfl ?_
            refine WS.done ?_
            refine WR.seq ?_
            refine WR.region rfl ?_
            refine S.moveT rfl ?_
            refine S.neq rfl rfl rfl ?_
            refine S.moveT rfl ?_
            refine S.splitD (d := 91) rfl (fun c91 => ?_) (fun c91 => ?_)
            ·
              skip
              refine S.off rfl ?_
              refine S.off rfl ?_
              refine S.pickTC rfl rfl ?_
              refine S.moveT rfl ?_
              refine S.off rfl ?_
              refine S.off rfl ?_
              refine S.off rfl ?_
              refine S.pickTC rfl rfl ?_
              refine S.assignT rfl ?_
              refine WS.done ?_
              refine WR.ret (ret1 rfl rfl ?_)
              exact ⟨rfl, hS86⟩
            ·
              skip
              refine S.moveT rfl ?_
              refine S.neq rfl rfl rfl ?_
              refine S.pickF rfl rfl ?_
              refine S.moveT rfl ?_
              refine S.splitD (d := 95) rfl (fun c95 => ?_) (fun c95 => ?_)
              ·
                skip
                refine S.off rfl ?_
                refine S.off rfl ?_
                refine S.off rfl ?_
                refine S.pickTC rfl rfl ?_
                refine S.assignT rfl ?_
                refine WS.done ?_
                refine WR.ret (ret1 rfl rfl ?_)
                exact ⟨rfl, hS86⟩
              ·
                skip
                refine S.moveT rfl ?_
                refine S.moveT rfl ?_
                refine S.leq rfl rfl rfl ?_
                refine S.isTD (d := 98) rfl (by exact rises_q c91 c95 (by omega) (by omega)) ?_
                refine S.pickF rfl rfl ?_
                refine S.assignT rfl ?_
                refine WS.done ?_
                refine WR.ret (ret1 rfl rfl ?_)
                exact ⟨rfl, hS86⟩
    ·
      skip
      refine S.off rfl ?_
      refine S.off rfl ?_
      refine S.pickFC rfl rfl ?_
      refine S.moveT rfl ?_
      refine S.off rfl ?_
      refine S.off rfl ?_
      refine S.off rfl ?_
      refine S.pickFC rfl rfl ?_
      refine WS.done ?_
      refine WR.condF rfl ?_
      refine WR.skip ?_
      refine WR.seq ?_
      refine WR.region rfl ?_
      refine S.moveT rfl ?_
      refine S.moveT rfl ?_
      refine S.call ent12 rfl (s_sub hS27 (by assumption) (by assumption)) rfl ?_
      rintro _ w44 ⟨rfl, hS44⟩
      clear hS27
      refine S.moveT rfl ?_
      refine S.extract rfl rfl rfl ?_
      refine S.extract rfl rfl rfl ?_
      refine S.assignT rfl ?_
      refine S.assignT rfl ?_
      refine WS.done ?_
      refine WR.seq ?_
      refine WR.region rfl ?_
      refine S.moveT rfl ?_
      refine S.moveT rfl ?_
      refine S.call ent12 rfl (s_sub hS44 (by assumption) (by assumption)) rfl ?_
      rintro _ w50 ⟨rfl, hS50⟩
      clear hS44
      refine S.moveT rfl ?_
      refine S.extract rfl rfl rfl ?_
      refine S.extract rfl rfl rfl ?_
      refine S.assignT rfl ?_
      refine S.assignT rfl ?_
      refine WS.done ?_
      refine WR.seq ?_
      refine WR.seq ?_
      refine WR.region rfl ?_
      refine S.moveT rfl ?_
      refine S.eql rfl rfl rfl ?_
      refine S.moveT rfl ?_
      refine S.splitD (d := 55) rfl (fun c55 => ?_) (fun c55 => ?_)
      ·
        skip
        refine S.moveT rfl ?_
        refine S.eql rfl rfl rfl ?_
        refine S.pickT rfl rfl ?_
        refine S.moveT rfl ?_
        refine S.splitD (d := 59) rfl (fun c59 => ?_) (fun c59 => ?_)
        ·
          skip
          refine S.moveT rfl ?_
          refine S.moveT rfl ?_
          refine S.gtr rfl rfl rfl ?_
          refine S.isFD (d := 62) rfl (by exact rises c55 c59 (by omega)) ?_
          refine S.pickT rfl rfl ?_
          refine WS.done ?_
          refine WR.condF rfl ?_
          refine WR.skip ?_
          refine WR.seq ?_
          refine WR.seq ?_
          refine WR.region rfl ?_
          refine S.moveT rfl ?_
          refine S.lss rfl rfl rfl ?_
          refine WS.done ?_
          refine WR.condD rfl (fun c65 => ?_) (fun c65 => ?_)
          ·
            skip
            refine WR.seq ?_
            refine WR.region rfl ?_
            refine S.moveT rfl ?_
            refine S.moveT rfl ?_
            refine S.moveT rfl ?_
            refine S.call ent15 rfl (s_clamp hS50 ) rfl ?_
            rintro _ w69 ⟨rfl, hS69⟩
            clear hS50
            refine S.moveT rfl ?_
            refine S.moveT rfl ?_
            refine S.moveT rfl ?_
            refine S.call ent15 rfl (s_clamp hS69 ) rfl ?_
            rintro _ w73 ⟨rfl, hS73⟩
            clear hS69
            refine S.leq rfl rfl rfl ?_
            refine S.isTD (d := 74) rfl (by omega) ?_
            refine S.assignT rfl ?_
            refine WS.done ?_
            refine WR.ret (ret1 rfl rfl ?_)
            exact ⟨rfl, hS73⟩
          ·
            skip
            refine WR.skip ?_
            refine WR.seq ?_
            refine WR.region rfl ?_
            refine S.moveT rfl ?_
            refine S.moveT rfl ?_
            refine S.moveT rfl ?_
            refine S.call ent14 rfl (s_ratio hS50 (by assumption) (by assumption) (by assumption)) rfl ?_
            rintro _ w79 ⟨rfl, hS79⟩
            clear hS50
            refine S.as (d := 79) rfl ratio_tup ?_
            refine S.moveT rfl ?_
            refine S.extract rfl rfl rfl ?_
            refine S.extract rfl rfl rfl ?_
            refine S.assignT rfl ?_
            refine S.assignT rfl ?_
            refine WS.done ?_
            refine WR.seq ?_
            refine WR.region rfl ?_
            refine S.moveT rfl ?_
            refine S.moveT rfl ?_
            refine S.moveT rfl ?_
            refine S.call ent14 rfl (s_ratio hS79 (by assumption) (by assumption) (by assumption)) rfl ?_
            rintro _ w86 ⟨rfl, hS86⟩
            clear hS79
            refine S.as (d := 86) rfl ratio_tup ?_
            refine S.moveT rfl ?_
            refine S.extract rfl rfl rfl ?_
            refine S.extract rfl rfl rfl ?_
            refine S.assignT rfl ?_
            refine S.assignT rfl ?_
            refine WS.done ?_
            refine WR.seq ?_
            refine WR.region rfl ?_
            refine S.moveT rfl ?_
            refine S.neq rfl rfl rfl ?_
            refine S.moveT rfl ?_
            refine S.splitD (d := 91) rfl (fun c91 => ?_) (fun c91 => ?_)
            ·
              skip
              refine S.off rfl ?_
              refine S.off rfl ?_
              refine S.pickTC rfl rfl ?_
              refine S.moveT rfl ?_
              refine S.off rfl ?_
              refine S.off rfl ?_
              refine S.off rfl ?_
              refine S.pickTC rfl rfl ?_
              refine S.assignT rfl ?_
              refine WS.done ?_
              refine WR.ret (ret1 rfl rfl ?_)
              exact ⟨rfl, hS86⟩
            ·
              skip
              refine S.moveT rfl ?_
              refine S.neq rfl rfl rfl ?_
              refine S.pickF rfl rfl ?_
              refine S.moveT rfl ?_
              refine S.splitD (d := 95) rfl (fun c95 => ?_) (fun c95 => ?_)
              ·
                skip
                refine S.off rfl ?_
                refine S.off rfl ?_
                refine S.off rfl ?_
                refine S.pickTC rfl rfl ?_
                refine S.assignT rfl ?_
                refine WS.done ?_
                refine WR.ret (ret1 rfl rfl ?_)
                exact ⟨rfl, hS86⟩
              ·
                skip
                refine S.moveT rfl ?_
                refine S.moveT rfl ?_
                refine S.leq rfl rfl rfl ?_
                refine S.isTD (d := 98) rfl (by exact rises_q c91 c95 (by omega) (by omega)) ?_
                refine S.pickF rfl rfl ?_
                refine S.assignT rfl ?_
                refine WS.done ?_
                refine WR.ret (ret1 rfl rfl ?_)
                exact ⟨rfl, hS86⟩
        ·
          skip
          refine S.off rfl ?_
          refine S.off rfl ?_
          refine S.off rfl ?_
          refine S.pickFC rfl rfl ?_
          refine WS.done ?_
          refine WR.condF rfl ?_
          refine WR.skip ?_
          refine WR.seq ?_
          refine WR.seq ?_
          refine WR.region rfl ?_
          refine S.moveT rfl ?_
          refine S.lss rfl rfl rfl ?_
          refine WS.done ?_
          refine WR.condD rfl (fun c65 => ?_) (fun c65 => ?_)
          ·
            skip
            refine WR.seq ?_
            refine WR.region rfl ?_
            refine S.moveT rfl ?_
            refine S.moveT rfl ?_
            refine S.moveT rfl ?_
            refine S.call ent15 rfl (s_clamp hS50 ) rfl ?_
            rintro _ w69 ⟨rfl, hS69⟩
            clear hS50
            refine S.moveT rfl ?_
            refine S.moveT rfl ?_
            refine S.moveT rfl ?_
            refine S.call ent15 rfl (s_clamp hS69 ) rfl ?_
            rintro _ w73 ⟨rfl, hS73⟩
            clear hS69
            refine S.leq rfl rfl rfl ?_
            refine S.isTD (d := 74) rfl (by omega) ?_
            refine S.assignT rfl ?_
            refine WS.done ?_
            refine WR.ret (ret1 rfl rfl ?_)
            exact ⟨rfl, hS73⟩
          ·
            skip
            refine WR.skip ?_
            refine WR.seq ?_
            refine WR.region rfl ?_
            refine S.moveT rfl ?_
            refine S.moveT rfl ?_
            refine S.moveT rfl ?_
            refine S.call ent14 rfl (s_ratio hS50 (by assumption) (by assumption) (by assumption)) rfl ?_
            rintro _ w79 ⟨rfl, hS79⟩
            clear hS50
            refine S.as (d := 79) rfl ratio_tup ?_
            refine S.moveT rfl ?_
            refine S.extract rfl rfl rfl ?_
            refine S.extract rfl rfl rfl ?_
            refine S.assignT rfl ?_
            refine S.assignT rfl ?_
            refine WS.done ?_
            refine WR.seq ?_
            refine WR.region rfl ?_
            refine S.moveT rfl ?_
            refine S.moveT rfl ?_
            refine S.moveT rfl ?_
            refine S.call ent14 rfl (s_ratio hS79 (by assumption) (by assumption) (by assumption)) rfl ?_
            rintro _ w86 ⟨rfl, hS86⟩
            clear hS79
            refine S.as (d := 86) rfl ratio_tup ?_
            refine S.moveT rfl ?_
            refine S.extract rfl rfl rfl ?_
            refine S.extract rfl rfl rfl ?_
            refine S.assignT rfl ?_
            refine S.assignT rfl ?_
            refine WS.done ?_
            refine WR.seq ?_
            refine WR.region rfl ?_
            refine S.moveT rfl ?_
            refine S.neq rfl rfl rfl ?_
            refine S.moveT rfl ?_
            refine S.splitD (d := 91) rfl (fun c91 => ?_) (fun c91 => ?_)
            ·
              skip
              refine S.off rfl ?_
              refine S.off rfl ?_
              refine S.pickTC rfl rfl ?_
              refine S.moveT rfl ?_
              refine S.off rfl ?_
              refine S.off rfl ?_
              refine S.off rfl ?_
              refine S.pickTC rfl rfl ?_
              refine S.assignT rfl ?_
              refine WS.done ?_
              refine WR.ret (ret1 rfl rfl ?_)
              exact ⟨rfl, hS86⟩
            ·
              skip
              refine S.moveT rfl ?_
              refine S.neq rfl rfl rfl ?_
              refine S.pickF rfl rfl ?_
              refine S.moveT rfl ?_
              refine S.splitD (d := 95) rfl (fun c95 => ?_) (fun c95 => ?_)
              ·
                skip
                refine S.off rfl ?_
                refine S.off rfl ?_
                refine S.off rfl ?_
                refine S.pickTC rfl rfl ?_
                refine S.assignT rfl ?_
                refine WS.done ?_
                refine WR.ret (ret1 rfl rfl ?_)
                exact ⟨rfl, hS86⟩
              ·
                skip
                refine S.moveT rfl ?_
                refine S.moveT rfl ?_
                refine S.leq rfl rfl rfl ?_
                refine S.isTD (d := 98) rfl (by exact rises_q c91 c95 (by omega) (by omega)) ?_
                refine S.pickF rfl rfl ?_
                refine S.assignT rfl ?_
                refine WS.done ?_
                refine WR.ret (ret1 rfl rfl ?_)
                exact ⟨rfl, hS86⟩
      ·
        skip
        refine S.off rfl ?_
        refine S.off rfl ?_
        refine S.pickFC rfl rfl ?_
        refine S.moveT rfl ?_
        refine S.off rfl ?_
        refine S.off rfl ?_
        refine S.off rfl ?_
        refine S.pickFC rfl rfl ?_
        refine WS.done ?_
        refine WR.condF rfl ?_
        refine WR.skip ?_
        refine WR.seq ?_
        refine WR.seq ?_
        refine WR.region rfl ?_
        refine S.moveT rfl ?_
        refine S.lss rfl rfl rfl ?_
        refine WS.done ?_
        refine WR.condD rfl (fun c65 => ?_) (fun c65 => ?_)
        ·
          skip
          refine WR.seq ?_
          refine WR.region rfl ?_
          refine S.moveT rfl ?_
          refine S.moveT rfl ?_
          refine S.moveT rfl ?_
          refine S.call ent15 rfl (s_clamp hS50 ) rfl ?_
          rintro _ w69 ⟨rfl, hS69⟩
          clear hS50
          refine S.moveT rfl ?_
          refine S.moveT rfl ?_
          refine S.moveT rfl ?_
          refine S.call ent15 rfl (s_clamp hS69 ) rfl ?_
          rintro _ w73 ⟨rfl, hS73⟩
          clear hS69
          refine S.leq rfl rfl rfl ?_
          refine S.isTD (d := 74) rfl (by omega) ?_
          refine S.assignT rfl ?_
          refine WS.done ?_
          refine WR.ret (ret1 rfl rfl ?_)
          exact ⟨rfl, hS73⟩
        ·
          skip
          refine WR.skip ?_
          refine WR.seq ?_
          refine WR.region rfl ?_
          refine S.moveT rfl ?_
          refine S.moveT rfl ?_
          refine S.moveT rfl ?_
          refine S.call ent14 rfl (s_ratio hS50 (by assumption) (by assumption) (by assumption)) rfl ?_
          rintro _ w79 ⟨rfl, hS79⟩
          clear hS50
          refine S.as (d := 79) rfl ratio_tup ?_
          refine S.moveT rfl ?_
          refine S.extract rfl rfl rfl ?_
          refine S.extract rfl rfl rfl ?_
          refine S.assignT rfl ?_
          refine S.assignT rfl ?_
          refine WS.done ?_
          refine WR.seq ?_
          refine WR.region rfl ?_
          refine S.moveT rfl ?_
          refine S.moveT rfl ?_
          refine S.moveT rfl ?_
          refine S.call ent14 rfl (s_ratio hS79 (by assumption) (by assumption) (by assumption)) rfl ?_
          rintro _ w86 ⟨rfl, hS86⟩
          clear hS79
          refine S.as (d := 86) rfl ratio_tup ?_
          refine S.moveT rfl ?_
          refine S.extract rfl rfl rfl ?_
          refine S.extract rfl rfl rfl ?_
          refine S.assignT rfl ?_
          refine S.assignT rfl ?_
          refine WS.done ?_
          refine WR.seq ?_
          refine WR.region rfl ?_
          refine S.moveT rfl ?_
          refine S.neq rfl rfl rfl ?_
          refine S.moveT rfl ?_
          refine S.splitD (d := 91) rfl (fun c91 => ?_) (fun c91 => ?_)
          ·
            skip
            refine S.off rfl ?_
            refine S.off rfl ?_
            refine S.pickTC rfl rfl ?_
            refine S.moveT rfl ?_
            refine S.off rfl ?_
            refine S.off rfl ?_
            refine S.off rfl ?_
            refine S.pickTC rfl rfl ?_
            refine S.assignT rfl ?_
            refine WS.done ?_
            refine WR.ret (ret1 rfl rfl ?_)
            exact ⟨rfl, hS86⟩
          ·
            skip
            refine S.moveT rfl ?_
            refine S.neq rfl rfl rfl ?_
            refine S.pickF rfl rfl ?_
            refine S.moveT rfl ?_
            refine S.splitD (d := 95) rfl (fun c95 => ?_) (fun c95 => ?_)
            ·
              skip
              refine S.off rfl ?_
              refine S.off rfl ?_
              refine S.off rfl ?_
              refine S.pickTC rfl rfl ?_
              refine S.assignT rfl ?_
              refine WS.done ?_
              refine WR.ret (ret1 rfl rfl ?_)
              exact ⟨rfl, hS86⟩
            ·
              skip
              refine S.moveT rfl ?_
              refine S.moveT rfl ?_
              refine S.leq rfl rfl rfl ?_
              refine S.isTD (d := 98) rfl (by exact rises_q c91 c95 (by omega) (by omega)) ?_
              refine S.pickF rfl rfl ?_
              refine S.assignT rfl ?_
              refine WS.done ?_
              refine WR.ret (ret1 rfl rfl ?_)
              exact ⟨rfl, hS86⟩


end Go.Proofs.Ytlipmgepneffkaa.B

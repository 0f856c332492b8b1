import Derived.Test.YteibodpeknlchaaWalkA
namespace Go.Proofs.Yteibodpeknlchaa.B
open Go.Proofs Go.RowKit
set_option linter.unusedVariables false
set_option linter.unusedSimpArgs false
theorem div_in {t w k : Int} (h : 1 ≤ w) (hk : t / w = k) : k * w ≤ t ∧ t < k * w + w := by
  subst hk
  have h1 : t / w * w ≤ t := Int.ediv_mul_le t (by omega)
  have h2 := Int.lt_ediv_add_one_mul_self t (show 0 < w by omega)
  rw [Int.add_mul] at h2; omega
theorem div_mul {x k w : Int} (h : 1 ≤ w) (hx : x = k * w) : x / w = k := by rw [hx]; exact Int.mul_ediv_cancel _ (by omega)
theorem div_top {x k w : Int} (h : 1 ≤ w) (hx : x = k * w + (w - 1)) : x / w = k := ediv_of (by omega) hx (by omega) (by omega)
theorem wrap_fits (x : Int) : fits (IntKind.i64.wrap x) := by rw [wrap_i64m]; unfold fits; omega
theorem part_next {k k' w : Int} (h : 1 ≤ w) (hk : fits k) (hf : -9223372036854775808 ≤ k * w ∧ k * w ≤ 9223372036854775807 ∧ -9223372036854775808 ≤ k * w + (w - 1) ∧ k * w + (w - 1) ≤ 9223372036854775807) (hk' : k' = IntKind.i64.wrap (k + 1)) (hl : -9223372036854775808 ≤ k' * w ∧ k' * w ≤ 9223372036854775807) :
    k' * w = IntKind.i64.wrap (k * w + (w - 1) + 1) := by
  unfold fits at hk
  rw [wrap_i64m] at hk' ⊢
  by_cases hm : k = 9223372036854775807
  · subst hm
    have h1 : w = 1 := by omega
    subst h1
    omega
  · have e : k' = k + 1 := by omega
    subst e
    rw [Int.add_mul] at hl ⊢
    omega
theorem meet_two {a b c d p q e : Int} (h : FoldP meetF (-9223372036854775808, 9223372036854775807) [(a, b), (c, d)] p q e) : e ≠ 0 ∨ (e = 0 ∧ a ≤ b ∧ c ≤ d ∧ p ≤ q ∧ (p = -9223372036854775808 ∨ p = a ∨ p = c) ∧ (q = 9223372036854775807 ∨ q = b ∨ q = d) ∧ a ≤ p ∧ c ≤ p ∧ q ≤ b ∧ q ≤ d) := by
  have h2 := fold2 h
  unfold Three at h2
  simp only [meetF] at h2
  rcases h2 with h2 | h2 | h2 <;> omega
set_option maxRecDepth 100000 in
set_option maxHeartbeats 4000000 in
theorem law_GridParts {w : World} {R : Kn} {L : List HP}  (hS : St w R (L)) {w0 p m t : Int} (hw : fits w0) (hp : fits p) (hm : fits m) (ht : fits t) :
    Fn Try.prog 5 #[.agg #[.int .i64 w0, .int .i64 p, .int .i64 m], .int .i64 t] w (fun v w' => v = .bool true ∧ St w' R L) := by
  have hwt := win_cases w0 p m t
  have htt := id ht
  unfold fits at htt
  refine Fn.intro (n := 81) Try.func5 rfl rfl rfl ?_
  refine WR.seq ?_
  refine WR.region rfl ?_
  refine S.box hS rfl rfl rfl ?_
  intro b2 w2 hS2; clear hS
  refine S.assignC rfl ?_
  refine WS.done ?_
  refine WR.seq ?_
  refine WR.seq ?_
  refine WR.region rfl ?_
  refine S.call ent7 rfl (l19_alive hS2 ) rfl ?_
  rintro _ w10 ⟨rfl, hS10⟩
  clear hS2
  refine S.not rfl rfl ?_
  refine WS.done ?_
  refine WR.condF rfl ?_
  refine WR.skip ?_
  refine WR.seq ?_
  refine WR.seq ?_
  refine WR.region rfl ?_
  refine S.loadBA (i := 0) hS10 rfl Try.underlying23 rfl ti23 rfl rfl rfl rfl ?_
  refine S.call ent10 rfl (l19_of hS10 ) rfl ?_
  rintro _ w13 ⟨rfl, hS13⟩
  clear hS10
  refine S.call ent9 rfl (r19_right hS13 ) rfl ?_
  rintro _ w14 ⟨rfl, hS14⟩
  clear hS13
  refine S.notD rfl rfl ?_
  refine WS.done ?_
  refine WR.condD rfl (fun c15 => ?_) (fun c15 => ?_)
  ·
    skip
    refine WR.seq ?_
    refine WR.region rfl ?_
    refine S.assignC rfl ?_
    refine WS.done ?_
    refine WR.ret (ret1 rfl rfl ?_)
    exact ⟨rfl, hS14.drop⟩
  ·
    skip
    refine WR.skip ?_
    refine WR.seq ?_
    refine WR.region rfl ?_
    refine S.loadBA (i := 0) hS14 rfl Try.underlying23 rfl ti23 rfl rfl rfl rfl ?_
    refine S.moveT rfl ?_
    refine S.call ent16 rfl (gr_window hS14 (by exact ht)) rfl ?_
    rintro _ w18 ⟨rfl, hS18⟩
    clear hS14
    have hgr : GR w0 p m := by omega
    have hgx := gr_of hgr
    have hw1 : 1 ≤ w0 := hgx.1
    obtain ⟨k, hk⟩ : ∃ k, t / w0 = k := ⟨_, rfl⟩
    refine S.as (d := 18) rfl (congrArg (Value.int .i64) (show win w0 p m t = k by omega)) ?_
    have hkf : fits k := hk ▸ div_fits hw1 ht
    obtain ⟨hk1, hk2⟩ := div_in hw1 hk
    refine S.assignT rfl ?_
    refine WS.done ?_
    refine WR.seq ?_
    refine WR.region rfl ?_
    refine S.loadBA (i := 0) hS18 rfl Try.underlying23 rfl ti23 rfl rfl rfl rfl ?_
    refine S.moveT rfl ?_
    refine S.call ent11 rfl (gr_span hS18 (by exact hw) (by exact hkf)) rfl ?_
    rintro _ w22 ⟨lo22, hi22, e22, rfl, hP22, hS22⟩
    clear hS18
    have hsp := id hP22
    unfold SpanP fits at hsp
    refine S.moveT rfl ?_
    refine S.extract rfl rfl rfl ?_
    refine S.extract rfl rfl rfl ?_
    refine S.alloc hS22 ti25 rfl rfl ?_
    intro b6 w6 hS6; clear hS22
    refine S.storeB (i := 0) hS6 rfl ti25 rfl rfl rfl rfl rfl rfl rfl rfl ?_
    intro w2001 hS2001; clear hS6
    refine S.assignT rfl ?_
    refine WS.done ?_
    refine WR.seq ?_
    refine WR.seq ?_
    refine WR.region rfl ?_
    refine S.moveT rfl ?_
    refine S.neq rfl rfl rfl ?_
    refine WS.done ?_
    refine WR.condD rfl (fun c26 => ?_) (fun c26 => ?_)
    ·
      skip
      refine WR.seq ?_
      refine WR.region rfl ?_
      refine S.moveT rfl ?_
      refine S.eql rfl rfl rfl ?_
      refine S.isTD (d := 28) rfl (by omega) ?_
      refine S.assignT rfl ?_
      refine WS.done ?_
      refine WR.ret (ret1 rfl rfl ?_)
      exact ⟨rfl, hS2001.drop.drop⟩
    ·
      skip
      refine WR.skip ?_
      refine WR.seq ?_
      refine WR.seq ?_
      refine WR.regionQ mixed hS2001 (by kernel_rfl) rfl ?_
      have hlf : fits lo22 := by unfold fits; omega
      have hhf : fits hi22 := by unfold fits; omega
      have hwd := wd_cases lo22 hi22
      have hlk : lo22 / w0 = k := div_mul hw1 (by omega)
      have hhk : hi22 / w0 = k := div_top hw1 (by omega)
      have hwl := win_cases w0 p m lo22
      have hwh := win_cases w0 p m hi22
      refine Q.loadBA (i := 0) rfl Try.underlying25 rfl ti25 rfl rfl rfl rfl ?_
      refine Q.moveT rfl ?_
      refine Q.call ent21 rfl (fun w hQ => g_has hQ ) rfl ?_
      refine Q.isTD (d := 31) rfl (by omega) ?_
      refine Q.not rfl rfl ?_
      refine Q.moveT rfl ?_
      refine Q.loadBA (i := 0) rfl Try.underlying25 rfl ti25 rfl rfl rfl rfl ?_
      refine Q.call ent20 rfl (fun w hQ => g_width hQ (by exact hlf) (by exact hhf)) rfl ?_
      first
        | refine Q.addU rfl rfl rfl (by omega) ?_
        | refine Q.add rfl rfl rfl ?_
      refine Q.fieldB Try.underlying23 rfl ti2 rfl rfl rfl rfl ?_
      refine Q.loadB (i := 1) rfl Try.underlying2 rfl rfl rfl rfl ?_
      first
        | refine Q.convN Try.underlying2 Try.underlying47 rfl rfl (wrap_u64 (by omega) (by omega)) ?_
        | refine Q.conv Try.underlying2 Try.underlying47 rfl rfl ?_
      refine Q.neq rfl rfl rfl ?_
      refine Q.isFD (d := 40) rfl (by omega) ?_
      refine Q.pickF rfl rfl ?_
      refine Q.moveT rfl ?_
      refine Q.loadBA (i := 1) rfl Try.underlying23 rfl ti23 rfl rfl rfl rfl ?_
      refine Q.fieldB Try.underlying25 rfl ti2 rfl rfl rfl rfl ?_
      refine Q.loadB (i := 0) rfl Try.underlying2 rfl rfl rfl rfl ?_
      refine Q.call ent16 rfl (fun w hQ => gr_window hQ (by exact hlf)) rfl ?_
      refine Q.moveT rfl ?_
      refine Q.neq rfl rfl rfl ?_
      refine Q.isFD (d := 48) rfl (by omega) ?_
      refine Q.pickF rfl rfl ?_
      refine Q.moveT rfl ?_
      refine Q.loadBA (i := 1) rfl Try.underlying23 rfl ti23 rfl rfl rfl rfl ?_
      refine Q.fieldB Try.underlying25 rfl ti2 rfl rfl rfl rfl ?_
      refine Q.loadB (i := 0) rfl Try.underlying2 rfl rfl rfl rfl ?_
      refine Q.call ent16 rfl (fun w hQ => gr_window hQ (by exact hhf)) rfl ?_
      refine Q.moveT rfl ?_
      refine Q.neq rfl rfl rfl ?_
      refine Q.isFD (d := 56) rfl (by omega) ?_
      refine Q.pickF rfl rfl ?_
      refine Q.moveT rfl ?_
      refine Q.loadBA (i := 1) rfl Try.underlying23 rfl ti23 rfl rfl rfl rfl ?_
      refine Q.loadBA (i := 0) rfl Try.underlying25 rfl ti25 rfl rfl rfl rfl ?_
      refine Q.call ent18 rfl (fun w hQ => gr_certain hQ (by exact hlf) (by exact hhf)) rfl ?_
      refine Q.isTD (d := 61) rfl (by omega) ?_
      refine Q.not rfl rfl ?_
      refine Q.pickF rfl rfl ?_
      refine WQ.done ?_
      intro w5002 hS5002
      clear hS2001
      refine WR.condF rfl ?_
      refine WR.skip ?_
      refine WR.seq ?_
      refine WR.region rfl ?_
      refine S.loadBA (i := 1) hS5002 rfl Try.underlying23 rfl ti23 rfl rfl rfl rfl ?_
      refine S.moveT rfl ?_
      refine S.add rfl rfl rfl ?_
      obtain ⟨k', hk'⟩ : ∃ k', IntKind.i64.wrap (k + 1) = k' := ⟨_, rfl⟩
      refine S.as (d := 67) rfl (congrArg (Value.int .i64) hk') ?_
      have hkf' : fits k' := hk' ▸ wrap_fits _
      refine S.call ent11 rfl (gr_span hS5002 (by exact hw) (by exact hkf')) rfl ?_
      rintro _ w68 ⟨lo68, hi68, e68, rfl, hP68, hS68⟩
      clear hS5002
      have hsp2 := id hP68
      unfold SpanP fits at hsp2
      refine S.moveT rfl ?_
      refine S.extract rfl rfl rfl ?_
      refine S.extract rfl rfl rfl ?_
      refine S.alloc hS68 ti25 rfl rfl ?_
      intro b8 w8 hS8; clear hS68
      refine S.storeB (i := 0) hS8 rfl ti25 rfl rfl rfl rfl rfl rfl rfl rfl ?_
      intro w2003 hS2003; clear hS8
      refine S.assignT rfl ?_
      refine WS.done ?_
      refine WR.seq ?_
      refine WR.region rfl ?_
      refine S.moveT rfl ?_
      refine S.neq rfl rfl rfl ?_
      refine S.moveT rfl ?_
      refine S.splitD (d := 73) rfl (fun c73 => ?_) (fun c73 => ?_)
      ·
        skip
        refine S.off rfl ?_
        refine S.off rfl ?_
        refine S.off rfl ?_
        refine S.off rfl ?_
        refine S.off rfl ?_
        refine S.off rfl ?_
        refine S.pickTC rfl rfl ?_
        refine S.assignT rfl ?_
        refine WS.done ?_
        refine WR.ret (ret1 rfl rfl ?_)
        exact ⟨rfl, hS2003.drop.drop.drop⟩
      ·
        skip
        refine S.fieldB Try.underlying25 rfl ti2 rfl rfl rfl rfl ?_
        refine S.loadB (i := 0) hS2003 rfl Try.underlying2 rfl rfl rfl rfl ?_
        refine S.fieldB Try.underlying25 rfl ti2 rfl rfl rfl rfl ?_
        refine S.loadB (i := 1) hS2003 rfl Try.underlying2 rfl rfl rfl rfl ?_
        refine S.add rfl rfl rfl ?_
        refine S.eql rfl rfl rfl ?_
        refine S.isTD (d := 79) rfl (by have h5 := part_next (w := w0) (k := k) (k' := k') hw1 hkf (by omega) hk'.symm (by omega); rw [show hi22 = k * w0 + (w0 - 1) by omega, ← h5]; omega) ?_
        refine S.pickF rfl rfl ?_
        refine S.assignT rfl ?_
        refine WS.done ?_
        refine WR.ret (ret1 rfl rfl ?_)
        exact ⟨rfl, hS2003.drop.drop.drop⟩

set_option maxRecDepth 100000 in
set_option maxHeartbeats 4000000 in
theorem law_GridWithin {w : World} {R : Kn} {L : List HP}  (hS : St w R (L)) {w0 p m a b c d o : Int} (hw : fits w0) (hp : fits p) (hm : fits m) (ha : fits a) (hb : fits b) (hc : fits c) (hd : fits d) :
    Fn Try.prog 6 #[.agg #[.int .i64 w0, .int .i64 p, .int .i64 m], .agg #[.int .i64 a, .int .i64 b], .agg #[.int .i64 c, .int .i64 d], .int .i64 o] w (fun v w' => v = .bool true ∧ St w' R L) := by
  have haa := id ha
  have hbb := id hb
  have hcc := id hc
  have hdd := id hd
  unfold fits at haa hbb hcc hdd
  have hmt := mt_at w0 p m a b
  have hwa := win_cases w0 p m a
  have hwb := win_cases w0 p m b
  have hpk := pk_cases w0 p m a b
  have hpo := pk_cases w0 p o a b
  refine Fn.intro (n := 130) Try.func6 rfl rfl rfl ?_
  refine WR.seq ?_
  refine WR.region rfl ?_
  refine S.box hS rfl rfl rfl ?_
  intro b4 w4 hS4; clear hS
  refine S.box hS4 rfl rfl rfl ?_
  intro b5 w5 hS5; clear hS4
  refine S.box hS5 rfl rfl rfl ?_
  intro b6 w6 hS6; clear hS5
  refine S.assignC rfl ?_
  refine WS.done ?_
  refine WR.seq ?_
  refine WR.seq ?_
  refine WR.region rfl ?_
  refine S.call ent7 rfl (l19_alive hS6 ) rfl ?_
  rintro _ w23 ⟨rfl, hS23⟩
  clear hS6
  refine S.not rfl rfl ?_
  refine WS.done ?_
  refine WR.condF rfl ?_
  refine WR.skip ?_
  refine WR.seq ?_
  refine WR.region rfl ?_
  refine S.loadBA (i := 1) hS23 rfl Try.underlying25 rfl ti25 rfl rfl rfl rfl ?_
  refine S.loadBA (i := 0) hS23 rfl Try.underlying25 rfl ti25 rfl rfl rfl rfl ?_
  first
    | refine S.buildRow (vs := [.agg _, .agg _]) hS23 Try.underlying68 ti25 rfl rfl rfl rfl rfl rfl rfl ?_
    | refine S.buildRow hS23 Try.underlying68 ti25 rfl rfl rfl rfl rfl rfl rfl ?_
  intro b28 w28 hS28; clear hS23
  obtain ⟨R28, hR28, hro28, hSf28⟩ := hS28.keepRow (enc := gpE) (n := 2) [(a, b), (c, d)] rfl (fun _ _ => rfl)
  refine S.call ent22 rfl (g_meet hSf28 (by exact hro28) (by simp)) rfl ?_
  rintro _ w29 ⟨p29, q29, e29, rfl, hG29, hS29⟩
  clear hSf28
  have hT := meet_two hG29
  refine S.moveT rfl ?_
  refine S.extract rfl rfl rfl ?_
  refine S.extract rfl rfl rfl ?_
  refine S.alloc hS29 ti25 rfl rfl ?_
  intro b9 w9 hS9; clear hS29
  refine S.storeB (i := 0) hS9 rfl ti25 rfl rfl rfl rfl rfl rfl rfl rfl ?_
  intro w2001 hS2001; clear hS9
  refine S.assignT rfl ?_
  refine WS.done ?_
  refine WR.seq ?_
  refine WR.seq ?_
  refine WR.region rfl ?_
  refine S.moveT rfl ?_
  refine S.neq rfl rfl rfl ?_
  refine WS.done ?_
  refine WR.condD rfl (fun c33 => ?_) (fun c33 => ?_)
  ·
    skip
    refine WR.seq ?_
    refine WR.region rfl ?_
    refine S.assignC rfl ?_
    refine WS.done ?_
    refine WR.ret (ret1 rfl rfl ?_)
    exact ⟨rfl, hS2001.drop.drop.drop.drop.weak hR28⟩
  ·
    skip
    refine WR.skip ?_
    refine WR.seq ?_
    refine WR.region rfl ?_
    refine S.loadBA (i := 3) hS2001 rfl Try.underlying23 rfl ti23 rfl rfl rfl rfl ?_
    refine S.loadBA (i := 2) hS2001 rfl Try.underlying25 rfl ti25 rfl rfl rfl rfl ?_
    refine S.call ent15 rfl (gr_meets hS2001 (by exact ha) (by exact hb)) rfl ?_
    rintro _ w37 ⟨rfl, hS37⟩
    clear hS2001
    refine S.moveT rfl ?_
    refine S.extract rfl rfl rfl ?_
    refine S.extract rfl rfl rfl ?_
    refine S.extract rfl rfl rfl ?_
    refine S.assignT rfl ?_
    refine S.assignT rfl ?_
    refine S.assignT rfl ?_
    refine WS.done ?_
    refine WR.seq ?_
    have hpf : fits p29 := by unfold fits; omega
    have hqf : fits q29 := by unfold fits; omega
    have hmp := mt_at w0 p m p29 q29
    refine WR.region rfl ?_
    refine S.loadBA (i := 3) hS37 rfl Try.underlying23 rfl ti23 rfl rfl rfl rfl ?_
    refine S.loadBA (i := 0) hS37 rfl Try.underlying25 rfl ti25 rfl rfl rfl rfl ?_
    refine S.call ent15 rfl (gr_meets hS37 (by exact hpf) (by exact hqf)) rfl ?_
    rintro _ w44 ⟨rfl, hS44⟩
    clear hS37
    refine S.moveT rfl ?_
    refine S.extract rfl rfl rfl ?_
    refine S.extract rfl rfl rfl ?_
    refine S.extract rfl rfl rfl ?_
    refine S.assignT rfl ?_
    refine S.assignT rfl ?_
    refine S.assignT rfl ?_
    refine WS.done ?_
    refine WR.seq ?_
    refine WR.seq ?_
    refine WR.region rfl ?_
    refine S.moveT rfl ?_
    refine S.moveT rfl ?_
    refine S.neq rfl rfl rfl ?_
    refine S.isFD (d := 50) rfl (by omega) ?_
    refine WS.done ?_
    refine WR.condF rfl ?_
    refine WR.skip ?_
    refine WR.seq ?_
    refine WR.seq ?_
    refine WR.region rfl ?_
    refine S.moveT rfl ?_
    refine S.neq rfl rfl rfl ?_
    refine WS.done ?_
    refine WR.condD rfl (fun c52 => ?_) (fun c52 => ?_)
    ·
      skip
      refine WR.seq ?_
      refine WR.region rfl ?_
      refine S.moveT rfl ?_
      refine S.eql rfl rfl rfl ?_
      refine S.isTD (d := 54) rfl (by omega) ?_
      refine S.assignT rfl ?_
      refine WS.done ?_
      refine WR.ret (ret1 rfl rfl ?_)
      exact ⟨rfl, hS44.drop.drop.drop.drop.weak hR28⟩
    ·
      skip
      refine WR.skip ?_
      refine WR.seq ?_
      refine WR.seq ?_
      have hgr : GR w0 p m := by omega
      have hgx := gr_of hgr
      have hd1 := div_le hgx.1 (show a ≤ p29 by omega)
      have hd2 := div_le hgx.1 (show p29 ≤ q29 by omega)
      have hd3 := div_le hgx.1 (show q29 ≤ b by omega)
      refine WR.regionQ mixed hS44 (by kernel_rfl) rfl ?_
      refine Q.moveT rfl ?_
      refine Q.moveT rfl ?_
      refine Q.lss rfl rfl rfl ?_
      refine Q.isFD (d := 57) rfl (by omega) ?_
      refine Q.moveT rfl ?_
      refine Q.moveT rfl ?_
      refine Q.moveT rfl ?_
      refine Q.gtr rfl rfl rfl ?_
      refine Q.isFD (d := 61) rfl (by omega) ?_
      refine Q.pickF rfl rfl ?_
      refine Q.moveT rfl ?_
      refine Q.moveT rfl ?_
      refine Q.moveT rfl ?_
      refine Q.gtr rfl rfl rfl ?_
      refine Q.isFD (d := 66) rfl (by omega) ?_
      refine Q.pickF rfl rfl ?_
      refine Q.moveT rfl ?_
      refine Q.loadBA (i := 3) rfl Try.underlying23 rfl ti23 rfl rfl rfl rfl ?_
      refine Q.fieldB Try.underlying25 rfl ti2 rfl rfl rfl rfl ?_
      refine Q.loadB (i := 2) rfl Try.underlying2 rfl rfl rfl rfl ?_
      refine Q.call ent16 rfl (fun w hQ => gr_window hQ (by exact ha)) rfl ?_
      refine Q.loadBA (i := 3) rfl Try.underlying23 rfl ti23 rfl rfl rfl rfl ?_
      refine Q.fieldB Try.underlying25 rfl ti2 rfl rfl rfl rfl ?_
      refine Q.loadB (i := 2) rfl Try.underlying2 rfl rfl rfl rfl ?_
      refine Q.call ent16 rfl (fun w hQ => gr_window hQ (by exact hb)) rfl ?_
      refine Q.gtr rfl rfl rfl ?_
      refine Q.isFD (d := 77) rfl (by omega) ?_
      refine Q.pickF rfl rfl ?_
      refine Q.moveT rfl ?_
      refine Q.loadBA (i := 3) rfl Try.underlying23 rfl ti23 rfl rfl rfl rfl ?_
      refine Q.loadBA (i := 2) rfl Try.underlying25 rfl ti25 rfl rfl rfl rfl ?_
      refine Q.call ent18 rfl (fun w hQ => gr_certain hQ (by exact ha) (by exact hb)) rfl ?_
      refine Q.moveT rfl ?_
      refine Q.splitD (d := 83) rfl (fun c83 => ?_) (fun c83 => ?_)
      ·
        skip
        refine Q.loadBA (i := 3) rfl Try.underlying23 rfl ti23 rfl rfl rfl rfl ?_
        refine Q.loadBA (i := 0) rfl Try.underlying25 rfl ti25 rfl rfl rfl rfl ?_
        refine Q.call ent18 rfl (fun w hQ => gr_certain hQ (by exact hpf) (by exact hqf)) rfl ?_
        refine Q.isTD (d := 86) rfl (by omega) ?_
        refine Q.not rfl rfl ?_
        refine Q.pickT rfl rfl ?_
        refine Q.pickF rfl rfl ?_
        refine WQ.done ?_
        intro w5002 hS5002
        clear hS44
        refine WR.condF rfl ?_
        refine WR.skip ?_
        refine WR.seq ?_
        refine WR.region rfl ?_
        refine S.fieldB Try.underlying23 rfl ti2 rfl rfl rfl rfl ?_
        refine S.loadB (i := 3) hS5002 rfl Try.underlying2 rfl rfl rfl rfl ?_
        refine S.fieldB Try.underlying23 rfl ti3 rfl rfl rfl rfl ?_
        refine S.loadB (i := 3) hS5002 rfl Try.underlying3 rfl rfl rfl rfl ?_
        refine S.moveT rfl ?_
        refine S.call ent8 rfl (gr_new hS5002 ) rfl ?_
        rintro _ w96 ⟨a96, b96', c96, e96, rfl, hG96, hS96⟩
        clear hS5002
        refine S.moveT rfl ?_
        refine S.extract rfl rfl rfl ?_
        refine S.extract rfl rfl rfl ?_
        refine S.alloc hS96 ti23 rfl rfl ?_
        intro b17 w17 hS17; clear hS96
        refine S.storeB (i := 0) hS17 rfl ti23 rfl rfl rfl rfl rfl rfl rfl rfl ?_
        intro w2003 hS2003; clear hS17
        refine S.assignT rfl ?_
        refine WS.done ?_
        refine WR.seq ?_
        refine WR.seq ?_
        refine WR.region rfl ?_
        refine S.moveT rfl ?_
        refine S.neq rfl rfl rfl ?_
        refine S.moveT rfl ?_
        refine S.splitD (d := 101) rfl (fun c101 => ?_) (fun c101 => ?_)
        ·
          skip
          refine S.off rfl ?_
          refine S.off rfl ?_
          refine S.off rfl ?_
          refine S.off rfl ?_
          refine S.pickTC rfl rfl ?_
          refine WS.done ?_
          refine WR.condT rfl ?_
          refine WR.seq ?_
          refine WR.region rfl ?_
          refine S.assignC rfl ?_
          refine WS.done ?_
          refine WR.ret (ret1 rfl rfl ?_)
          exact ⟨rfl, hS2003.drop.drop.drop.drop.drop.weak hR28⟩
        ·
          skip
          refine S.moveT rfl ?_
          refine S.fieldB Try.underlying23 rfl ti2 rfl rfl rfl rfl ?_
          refine S.loadB (i := 4) hS2003 rfl Try.underlying2 rfl rfl rfl rfl ?_
          refine S.lss rfl rfl rfl ?_
          refine S.pickF rfl rfl ?_
          refine WS.done ?_
          refine WR.condD rfl (fun c106 => ?_) (fun c106 => ?_)
          ·
            skip
            refine WR.seq ?_
            refine WR.region rfl ?_
            refine S.assignC rfl ?_
            refine WS.done ?_
            refine WR.ret (ret1 rfl rfl ?_)
            exact ⟨rfl, hS2003.drop.drop.drop.drop.drop.weak hR28⟩
          ·
            skip
            refine WR.skip ?_
            refine WR.seq ?_
            refine WR.region rfl ?_
            refine S.loadBA (i := 4) hS2003 rfl Try.underlying23 rfl ti23 rfl rfl rfl rfl ?_
            refine S.loadBA (i := 3) hS2003 rfl Try.underlying25 rfl ti25 rfl rfl rfl rfl ?_
            refine S.call ent13 rfl (gr_pick hS2003 (by exact ha) (by exact hb)) rfl ?_
            rintro _ w110 ⟨rfl, hS110⟩
            clear hS2003
            refine S.moveT rfl ?_
            refine S.extract rfl rfl rfl ?_
            refine S.extract rfl rfl rfl ?_
            refine S.assignT rfl ?_
            refine S.assignT rfl ?_
            refine WS.done ?_
            refine WR.seq ?_
            obtain rfl : w0 = a96 := by omega
            obtain rfl : p = b96' := by omega
            obtain rfl : o = c96 := by omega
            refine WR.region rfl ?_
            refine S.loadBA (i := 0) hS110 rfl Try.underlying23 rfl ti23 rfl rfl rfl rfl ?_
            refine S.loadBA (i := 3) hS110 rfl Try.underlying25 rfl ti25 rfl rfl rfl rfl ?_
            refine S.call ent13 rfl (gr_pick hS110 (by exact ha) (by exact hb)) rfl ?_
            rintro _ w116 ⟨rfl, hS116⟩
            clear hS110
            refine S.moveT rfl ?_
            refine S.extract rfl rfl rfl ?_
            refine S.extract rfl rfl rfl ?_
            refine S.assignT rfl ?_
            refine S.assignT rfl ?_
            refine WS.done ?_
            refine WR.seq ?_
            refine WR.region rfl ?_
            refine S.moveT rfl ?_
            refine S.neq rfl rfl rfl ?_
            refine S.moveT rfl ?_
            refine S.splitD (d := 121) rfl (fun c121 => ?_) (fun c121 => ?_)
            ·
              skip
              refine S.off rfl ?_
              refine S.off rfl ?_
              refine S.off rfl ?_
              refine S.off rfl ?_
              refine S.off rfl ?_
              refine S.off rfl ?_
              refine S.off rfl ?_
              refine S.pickTC rfl rfl ?_
              refine S.assignT rfl ?_
              refine WS.done ?_
              refine WR.ret (ret1 rfl rfl ?_)
              exact ⟨rfl, hS116.drop.drop.drop.drop.drop.weak hR28⟩
            ·
              skip
              refine S.moveT rfl ?_
              refine S.eql rfl rfl rfl ?_
              refine S.isTD (d := 123) rfl (by omega) ?_
              refine S.moveT rfl ?_
              refine S.moveT rfl ?_
              refine S.moveT rfl ?_
              refine S.eql rfl rfl rfl ?_
              refine S.isTD (d := 127) rfl (by omega) ?_
              refine S.pickT rfl rfl ?_
              refine S.pickF rfl rfl ?_
              refine S.assignT rfl ?_
              refine WS.done ?_
              refine WR.ret (ret1 rfl rfl ?_)
              exact ⟨rfl, hS116.drop.drop.drop.drop.drop.weak hR28⟩
      ·
        skip
        refine Q.off rfl ?_
        refine Q.off rfl ?_
        refine Q.off rfl ?_
        refine Q.off rfl ?_
        refine Q.pickFC rfl rfl ?_
        refine Q.pickF rfl rfl ?_
        refine WQ.done ?_
        intro w5004 hS5004
        clear hS44
        refine WR.condF rfl ?_
        refine WR.skip ?_
        refine WR.seq ?_
        refine WR.region rfl ?_
        refine S.fieldB Try.underlying23 rfl ti2 rfl rfl rfl rfl ?_
        refine S.loadB (i := 3) hS5004 rfl Try.underlying2 rfl rfl rfl rfl ?_
        refine S.fieldB Try.underlying23 rfl ti3 rfl rfl rfl rfl ?_
        refine S.loadB (i := 3) hS5004 rfl Try.underlying3 rfl rfl rfl rfl ?_
        refine S.moveT rfl ?_
        refine S.call ent8 rfl (gr_new hS5004 ) rfl ?_
        rintro _ w96 ⟨a96, b96', c96, e96, rfl, hG96, hS96⟩
        clear hS5004
        refine S.moveT rfl ?_
        refine S.extract rfl rfl rfl ?_
        refine S.extract rfl rfl rfl ?_
        refine S.alloc hS96 ti23 rfl rfl ?_
        intro b17 w17 hS17; clear hS96
        refine S.storeB (i := 0) hS17 rfl ti23 rfl rfl rfl rfl rfl rfl rfl rfl ?_
        intro w2005 hS2005; clear hS17
        refine S.assignT rfl ?_
        refine WS.done ?_
        refine WR.seq ?_
        refine WR.seq ?_
        refine WR.region rfl ?_
        refine S.moveT rfl ?_
        refine S.neq rfl rfl rfl ?_
        refine S.moveT rfl ?_
        refine S.splitD (d := 101) rfl (fun c101 => ?_) (fun c101 => ?_)
        ·
          skip
          refine S.off rfl ?_
          refine S.off rfl ?_
          refine S.off rfl ?_
          refine S.off rfl ?_
          refine S.pickTC rfl rfl ?_
          refine WS.done ?_
          refine WR.condT rfl ?_
          refine WR.seq ?_
          refine WR.region rfl ?_
          refine S.assignC rfl ?_
          refine WS.done ?_
          refine WR.ret (ret1 rfl rfl ?_)
          exact ⟨rfl, hS2005.drop.drop.drop.drop.drop.weak hR28⟩
        ·
          skip
          refine S.moveT rfl ?_
          refine S.fieldB Try.underlying23 rfl ti2 rfl rfl rfl rfl ?_
          refine S.loadB (i := 4) hS2005 rfl Try.underlying2 rfl rfl rfl rfl ?_
          refine S.lss rfl rfl rfl ?_
          refine S.pickF rfl rfl ?_
          refine WS.done ?_
          refine WR.condD rfl (fun c106 => ?_) (fun c106 => ?_)
          ·
            skip
            refine WR.seq ?_
            refine WR.region rfl ?_
            refine S.assignC rfl ?_
            refine WS.done ?_
            refine WR.ret (ret1 rfl rfl ?_)
            exact ⟨rfl, hS2005.drop.drop.drop.drop.drop.weak hR28⟩
          ·
            skip
            refine WR.skip ?_
            refine WR.seq ?_
            refine WR.region rfl ?_
            refine S.loadBA (i := 4) hS2005 rfl Try.underlying23 rfl ti23 rfl rfl rfl rfl ?_
            refine S.loadBA (i := 3) hS2005 rfl Try.underlying25 rfl ti25 rfl rfl rfl rfl ?_
            refine S.call ent13 rfl (gr_pick hS2005 (by exact ha) (by exact hb)) rfl ?_
            rintro _ w110 ⟨rfl, hS110⟩
            clear hS2005
            refine S.moveT rfl ?_
            refine S.extract rfl rfl rfl ?_
            refine S.extract rfl rfl rfl ?_
            refine S.assignT rfl ?_
            refine S.assignT rfl ?_
            refine WS.done ?_
            refine WR.seq ?_
            obtain rfl : w0 = a96 := by omega
            obtain rfl : p = b96' := by omega
            obtain rfl : o = c96 := by omega
            refine WR.region rfl ?_
            refine S.loadBA (i := 0) hS110 rfl Try.underlying23 rfl ti23 rfl rfl rfl rfl ?_
            refine S.loadBA (i := 3) hS110 rfl Try.underlying25 rfl ti25 rfl rfl rfl rfl ?_
            refine S.call ent13 rfl (gr_pick hS110 (by exact ha) (by exact hb)) rfl ?_
            rintro _ w116 ⟨rfl, hS116⟩
            clear hS110
            refine S.moveT rfl ?_
            refine S.extract rfl rfl rfl ?_
            refine S.extract rfl rfl rfl ?_
            refine S.assignT rfl ?_
            refine S.assignT rfl ?_
            refine WS.done ?_
            refine WR.seq ?_
            refine WR.region rfl ?_
            refine S.moveT rfl ?_
            refine S.neq rfl rfl rfl ?_
            refine S.moveT rfl ?_
            refine S.splitD (d := 121) rfl (fun c121 => ?_) (fun c121 => ?_)
            ·
              skip
              refine S.off rfl ?_
              refine S.off rfl ?_
              refine S.off rfl ?_
              refine S.off rfl ?_
              refine S.off rfl ?_
              refine S.off rfl ?_
              refine S.off rfl ?_
              refine S.pickTC rfl rfl ?_
              refine S.assignT rfl ?_
              refine WS.done ?_
              refine WR.ret (ret1 rfl rfl ?_)
              exact ⟨rfl, hS116.drop.drop.drop.drop.drop.weak hR28⟩
            ·
              skip
              refine S.moveT rfl ?_
              refine S.eql rfl rfl rfl ?_
              refine S.isTD (d := 123) rfl (by omega) ?_
              refine S.moveT rfl ?_
              refine S.moveT rfl ?_
              refine S.moveT rfl ?_
              refine S.eql rfl rfl rfl ?_
              refine S.isTD (d := 127) rfl (by omega) ?_
              refine S.pickT rfl rfl ?_
              refine S.pickF rfl rfl ?_
              refine S.assignT rfl ?_
              refine WS.done ?_
              refine WR.ret (ret1 rfl rfl ?_)
              exact ⟨rfl, hS116.drop.drop.drop.drop.drop.weak hR28⟩


end Go.Proofs.Yteibodpeknlchaa.B

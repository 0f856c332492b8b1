import Derived.Test.YtfajmfdoemjacaaWalkR
namespace Go.Proofs.Ytfajmfdoemjacaa.B
open Go.Proofs Go.RowKit
set_option linter.unusedVariables false
set_option linter.unusedSimpArgs false
theorem ub_3 : ub 300 = [172, 2] ∧ ub 0 = [0] ∧ ub 5 = [5] ∧ ub 2 = [2] := ⟨by rw [ub_hi (by decide), ub_lo (by decide)]; rfl, ub_lo (by decide), ub_lo (by decide), ub_lo (by decide)⟩
theorem uB_300 : uB [300, 0] = [172, 2, 0] := by
  show ub 300 ++ (ub 0 ++ []) = _
  rw [ub_3.1, ub_3.2.1]; rfl
theorem iB_3 : iB [-3] = [5] := by
  show ub 5 ++ [] = _
  rw [ub_3.2.2.1]; rfl
theorem tB_ab : tB [⟨#[97, 98]⟩, ⟨#[]⟩] = [2, 97, 98, 0] := by
  show (ub 2 ++ sB ⟨#[97, 98]⟩) ++ ((ub 0 ++ sB ⟨#[]⟩) ++ []) = _
  rw [ub_3.2.2.2, ub_3.2.1]; rfl
set_option maxRecDepth 100000 in
set_option maxHeartbeats 4000000 in
theorem l6_alive {w : World} {R : Kn} {L : List HP}  (hS : St w R (L))  :
    Fn Try.prog 7 #[] w (fun v w' => v = .bool true ∧ St w' R L) := by
  refine Fn.intro (n := 82) Try.func7 rfl rfl rfl ?_
  refine WR.seq ?_
  refine WR.region rfl ?_
  refine S.assignC rfl ?_
  refine WS.done ?_
  refine WR.seq ?_
  refine WR.region rfl ?_
  first
    | refine S.buildRow (vs := [.int _ _, .int _ _, .int _ _, .int _ _, .int _ _, .int _ _]) hS Try.underlying26 ti5 rfl rfl rfl rfl rfl rfl rfl ?_
    | refine S.buildRow hS Try.underlying26 ti5 rfl rfl rfl rfl rfl rfl rfl ?_
  intro b8 w8 hS8; clear hS
  obtain ⟨R8, hR8, hro8, hSf8⟩ := hS8.keepRow (enc := encI .u8) (n := 1) [172, 2, 5, 1, 97, 9] rfl (fun _ _ => rfl)
  refine S.call ent20 rfl (c_new hSf8 (by exact hro8)) rfl ?_
  rintro _ w9 ⟨b9, rfl, hS9⟩
  clear hSf8
  refine S.assignT rfl ?_
  refine WS.done ?_
  refine WR.seq ?_
  refine WR.seq ?_
  refine WR.region rfl ?_
  refine S.moveT rfl ?_
  refine S.eqlNil Try.underlying39 rfl rfl rfl ?_
  refine WS.done ?_
  refine WR.condF rfl ?_
  refine WR.skip ?_
  refine WR.seq ?_
  refine WR.region rfl ?_
  refine S.moveT rfl ?_
  refine S.call ent23 rfl (c_rUint hS9 (by exact hro8) (by intro x hx; simp at hx; omega) (by simp)) rfl ?_
  rintro _ w13 ⟨vs13, rfl, hro13, hS13⟩
  clear hS9
  have hv13 : rdU [172, 2, 5, 1, 97, 9] 0 = (300, [5, 1, 97, 9], 0) := by decide +kernel
  rw [hv13] at hS13 hro13 ⊢
  refine S.assignT rfl ?_
  refine WS.done ?_
  refine WR.seq ?_
  refine WR.region rfl ?_
  refine S.moveT rfl ?_
  refine S.call ent25 rfl (c_rInt hS13 (by exact hro13) (by intro x hx; simp at hx; omega) (by simp)) rfl ?_
  rintro _ w15 ⟨vs15, rfl, hro15, hS15⟩
  clear hS13
  have hv15 : rdU [5, 1, 97, 9] 0 = (5, [1, 97, 9], 0) := by decide +kernel
  rw [hv15] at hS15 hro15 ⊢
  refine S.assignT rfl ?_
  refine WS.done ?_
  refine WR.seq ?_
  refine WR.region rfl ?_
  refine S.moveT rfl ?_
  refine S.call ent26 rfl (c_rText hS15 (by exact hro15) (by intro x hx; simp at hx; omega) (by simp) (by decide)) rfl ?_
  rintro _ w17 ⟨vs17, rfl, hro17, hS17⟩
  clear hS15
  have hv17 : rdT [1, 97, 9] 0 1 = (⟨#[97]⟩, [9], 0) := by decide +kernel
  rw [hv17] at hS17 hro17 ⊢
  refine S.assignT rfl ?_
  refine WS.done ?_
  refine WR.seq ?_
  refine WR.region rfl ?_
  refine S.moveT rfl ?_
  refine S.call ent27 rfl (c_left hS17 (by exact hro17)) rfl ?_
  rintro _ w19 ⟨rfl, hS19⟩
  clear hS17
  refine S.assignT rfl ?_
  refine WS.done ?_
  refine WR.seq ?_
  refine WR.region rfl ?_
  refine S.moveT rfl ?_
  refine S.call ent22 rfl (c_err hS19 ) rfl ?_
  rintro _ w21 ⟨rfl, hS21⟩
  clear hS19
  refine S.assignT rfl ?_
  refine WS.done ?_
  refine WR.seq ?_
  refine WR.region rfl ?_
  refine S.moveT rfl ?_
  refine S.call ent28 rfl (c_rCount hS21 (by exact hro17) (by intro x hx; simp at hx; omega) (by simp) (by decide)) rfl ?_
  rintro _ w23 ⟨vs23, rfl, hro23, hS23⟩
  clear hS21
  have hv23 : rdC [9] 0 8 = (0, [9], 17) := by decide +kernel
  rw [hv23] at hS23 hro23 ⊢
  refine S.assignT rfl ?_
  refine WS.done ?_
  refine WR.seq ?_
  refine WR.region rfl ?_
  refine S.moveT rfl ?_
  refine S.eql rfl rfl rfl ?_
  refine S.isTD (d := 25) rfl (by rfl) ?_
  refine S.moveT rfl ?_
  refine S.moveT rfl ?_
  refine S.eql rfl rfl rfl ?_
  refine S.isTD (d := 28) rfl (by decide) ?_
  refine S.pickT rfl rfl ?_
  refine S.moveT rfl ?_
  refine S.moveT rfl ?_
  refine S.eqlStr rfl rfl rfl ?_
  refine S.isTD (d := 32) rfl (by decide) ?_
  refine S.pickT rfl rfl ?_
  refine S.moveT rfl ?_
  refine S.moveT rfl ?_
  refine S.eql rfl rfl rfl ?_
  refine S.isTD (d := 36) rfl (by decide) ?_
  refine S.pickT rfl rfl ?_
  refine S.moveT rfl ?_
  refine S.moveT rfl ?_
  refine S.eql rfl rfl rfl ?_
  refine S.isTD (d := 40) rfl (by decide) ?_
  refine S.pickT rfl rfl ?_
  refine S.moveT rfl ?_
  refine S.moveT rfl ?_
  refine S.eql rfl rfl rfl ?_
  refine S.isTD (d := 44) rfl (by decide) ?_
  refine S.pickT rfl rfl ?_
  refine S.moveT rfl ?_
  refine S.moveT rfl ?_
  refine S.call ent22 rfl (c_err hS23 ) rfl ?_
  rintro _ w48 ⟨rfl, hS48⟩
  clear hS23
  refine S.eql rfl rfl rfl ?_
  refine S.isTD (d := 49) rfl (by decide) ?_
  refine S.pickT rfl rfl ?_
  refine S.moveT rfl ?_
  refine S.moveT rfl ?_
  refine S.call ent24 rfl (c_rEnd hS48 (by exact hro23) (by intro x hx; simp at hx; omega) (by simp)) rfl ?_
  rintro _ w53 ⟨rfl, hS53⟩
  clear hS48
  have hv53 : rdE [9] 17 = 17 := by decide
  rw [hv53] at hS53 ⊢
  refine S.eql rfl rfl rfl ?_
  refine S.isTD (d := 54) rfl (by decide) ?_
  refine S.pickT rfl rfl ?_
  refine S.moveT rfl ?_
  first
    | refine S.buildRow (vs := [.int _ _, .int _ _]) hS53 Try.underlying22 ti28 rfl rfl rfl rfl rfl rfl rfl ?_
    | refine S.buildRow hS53 Try.underlying22 ti28 rfl rfl rfl rfl rfl rfl rfl ?_
  intro b57 w57 hS57; clear hS53
  obtain ⟨R57, hR57, hro57, hSf57⟩ := hS57.keepRow (enc := encI .u64) (n := 1) [300, 0] rfl (fun _ _ => rfl)
  replace hro8 := hro8.mono hR57
  replace hro13 := hro13.mono hR57
  replace hro15 := hro15.mono hR57
  replace hro17 := hro17.mono hR57
  replace hro23 := hro23.mono hR57
  refine S.call ent16 rfl (c_uints hSf57 (by exact hro57) (by intro x hx; simp at hx; omega) (by simp)) rfl ?_
  rintro v58 w58 hS58
  clear hSf57
  obtain ⟨R58, hR58, hro58, hSf58⟩ := hS58.freeze (fun _ _ => rfl)
  replace hro8 := hro8.mono hR58
  replace hro13 := hro13.mono hR58
  replace hro15 := hro15.mono hR58
  replace hro17 := hro17.mono hR58
  replace hro23 := hro23.mono hR58
  replace hro57 := hro57.mono hR58
  first
    | refine S.buildRow (vs := [.int _ _, .int _ _, .int _ _]) hSf58 Try.underlying26 ti5 rfl rfl rfl rfl rfl rfl rfl ?_
    | refine S.buildRow hSf58 Try.underlying26 ti5 rfl rfl rfl rfl rfl rfl rfl ?_
  intro b59 w59 hS59; clear hSf58
  obtain ⟨R59, hR59, hro59, hSf59⟩ := hS59.keepRow (enc := encI .u8) (n := 1) [172, 2, 0] rfl (fun _ _ => rfl)
  replace hro8 := hro8.mono hR59
  replace hro13 := hro13.mono hR59
  replace hro15 := hro15.mono hR59
  replace hro17 := hro17.mono hR59
  replace hro23 := hro23.mono hR59
  replace hro57 := hro57.mono hR59
  replace hro58 := hro58.mono hR59
  refine S.call ent15 rfl (r_sameBytes hSf59 (by exact hro58) (by exact hro59) (by rw [uB_300]; simp)) rfl ?_
  rintro _ w60 ⟨rfl, hS60⟩
  clear hSf59
  refine S.isTD (d := 60) rfl (by exact uB_300) ?_
  refine S.pickT rfl rfl ?_
  refine S.moveT rfl ?_
  first
    | refine S.buildRow (vs := [.int _ _]) hS60 Try.underlying23 ti2 rfl rfl rfl rfl rfl rfl rfl ?_
    | refine S.buildRow hS60 Try.underlying23 ti2 rfl rfl rfl rfl rfl rfl rfl ?_
  intro b63 w63 hS63; clear hS60
  obtain ⟨R63, hR63, hro63, hSf63⟩ := hS63.keepRow (enc := encI .i64) (n := 1) [-3] rfl (fun _ _ => rfl)
  replace hro8 := hro8.mono hR63
  replace hro13 := hro13.mono hR63
  replace hro15 := hro15.mono hR63
  replace hro17 := hro17.mono hR63
  replace hro23 := hro23.mono hR63
  replace hro57 := hro57.mono hR63
  replace hro58 := hro58.mono hR63
  replace hro59 := hro59.mono hR63
  refine S.call ent17 rfl (c_ints hSf63 (by exact hro63) (by intro x hx; simp at hx; omega) (by simp)) rfl ?_
  rintro v64 w64 hS64
  clear hSf63
  obtain ⟨R64, hR64, hro64, hSf64⟩ := hS64.freeze (fun _ _ => rfl)
  replace hro8 := hro8.mono hR64
  replace hro13 := hro13.mono hR64
  replace hro15 := hro15.mono hR64
  replace hro17 := hro17.mono hR64
  replace hro23 := hro23.mono hR64
  replace hro57 := hro57.mono hR64
  replace hro58 := hro58.mono hR64
  replace hro59 := hro59.mono hR64
  replace hro63 := hro63.mono hR64
  first
    | refine S.buildRow (vs := [.int _ _]) hSf64 Try.underlying26 ti5 rfl rfl rfl rfl rfl rfl rfl ?_
    | refine S.buildRow hSf64 Try.underlying26 ti5 rfl rfl rfl rfl rfl rfl rfl ?_
  intro b65 w65 hS65; clear hSf64
  obtain ⟨R65, hR65, hro65, hSf65⟩ := hS65.keepRow (enc := encI .u8) (n := 1) [5] rfl (fun _ _ => rfl)
  replace hro8 := hro8.mono hR65
  replace hro13 := hro13.mono hR65
  replace hro15 := hro15.mono hR65
  replace hro17 := hro17.mono hR65
  replace hro23 := hro23.mono hR65
  replace hro57 := hro57.mono hR65
  replace hro58 := hro58.mono hR65
  replace hro59 := hro59.mono hR65
  replace hro63 := hro63.mono hR65
  replace hro64 := hro64.mono hR65
  refine S.call ent15 rfl (r_sameBytes hSf65 (by exact hro64) (by exact hro65) (by rw [iB_3]; simp)) rfl ?_
  rintro _ w66 ⟨rfl, hS66⟩
  clear hSf65
  refine S.isTD (d := 66) rfl (by exact iB_3) ?_
  refine S.pickT rfl rfl ?_
  refine S.moveT rfl ?_
  first
    | refine S.buildRow (vs := [.string _, .string _]) hS66 Try.underlying24 ti9 rfl rfl rfl rfl rfl rfl rfl ?_
    | refine S.buildRow hS66 Try.underlying24 ti9 rfl rfl rfl rfl rfl rfl rfl ?_
  intro b69 w69 hS69; clear hS66
  obtain ⟨R69, hR69, hro69, hSf69⟩ := hS69.keepRow (enc := encS) (n := 1) [⟨#[97, 98]⟩, ⟨#[]⟩] rfl (fun _ _ => rfl)
  replace hro8 := hro8.mono hR69
  replace hro13 := hro13.mono hR69
  replace hro15 := hro15.mono hR69
  replace hro17 := hro17.mono hR69
  replace hro23 := hro23.mono hR69
  replace hro57 := hro57.mono hR69
  replace hro58 := hro58.mono hR69
  replace hro59 := hro59.mono hR69
  replace hro63 := hro63.mono hR69
  replace hro64 := hro64.mono hR69
  replace hro65 := hro65.mono hR69
  refine S.call ent18 rfl (c_texts hSf69 (by exact hro69) (by intro x hx; simp at hx; rcases hx with rfl | rfl <;> decide) (by simp)) rfl ?_
  rintro v70 w70 hS70
  clear hSf69
  obtain ⟨R70, hR70, hro70, hSf70⟩ := hS70.freeze (fun _ _ => rfl)
  replace hro8 := hro8.mono hR70
  replace hro13 := hro13.mono hR70
  replace hro15 := hro15.mono hR70
  replace hro17 := hro17.mono hR70
  replace hro23 := hro23.mono hR70
  replace hro57 := hro57.mono hR70
  replace hro58 := hro58.mono hR70
  replace hro59 := hro59.mono hR70
  replace hro63 := hro63.mono hR70
  replace hro64 := hro64.mono hR70
  replace hro65 := hro65.mono hR70
  replace hro69 := hro69.mono hR70
  first
    | refine S.buildRow (vs := [.int _ _, .int _ _, .int _ _, .int _ _]) hSf70 Try.underlying26 ti5 rfl rfl rfl rfl rfl rfl rfl ?_
    | refine S.buildRow hSf70 Try.underlying26 ti5 rfl rfl rfl rfl rfl rfl rfl ?_
  intro b71 w71 hS71; clear hSf70
  obtain ⟨R71, hR71, hro71, hSf71⟩ := hS71.keepRow (enc := encI .u8) (n := 1) [2, 97, 98, 0] rfl (fun _ _ => rfl)
  replace hro8 := hro8.mono hR71
  replace hro13 := hro13.mono hR71
  replace hro15 := hro15.mono hR71
  replace hro17 := hro17.mono hR71
  replace hro23 := hro23.mono hR71
  replace hro57 := hro57.mono hR71
  replace hro58 := hro58.mono hR71
  replace hro59 := hro59.mono hR71
  replace hro63 := hro63.mono hR71
  replace hro64 := hro64.mono hR71
  replace hro65 := hro65.mono hR71
  replace hro69 := hro69.mono hR71
  replace hro70 := hro70.mono hR71
  refine S.call ent15 rfl (r_sameBytes hSf71 (by exact hro70) (by exact hro71) (by rw [tB_ab]; simp)) rfl ?_
  rintro _ w72 ⟨rfl, hS72⟩
  clear hSf71
  refine S.isTD (d := 72) rfl (by exact tB_ab) ?_
  refine S.pickT rfl rfl ?_
  refine S.moveT rfl ?_
  refine S.call ent11 rfl (c_turn hS72 (by decide)) rfl ?_
  rintro _ w75 ⟨rfl, hS75⟩
  clear hS72
  refine S.eql rfl rfl rfl ?_
  refine S.isTD (d := 76) rfl (by decide) ?_
  refine S.pickT rfl rfl ?_
  refine S.moveT rfl ?_
  refine S.call ent9 rfl (c_unturn hS75 (by decide)) rfl ?_
  rintro _ w79 ⟨rfl, hS79⟩
  clear hS75
  refine S.eql rfl rfl rfl ?_
  refine S.isTD (d := 80) rfl (by decide) ?_
  refine S.pickT rfl rfl ?_
  refine S.assignT rfl ?_
  refine WS.done ?_
  refine WR.ret (ret1 rfl rfl ?_)
  exact ⟨rfl, hS79.drop.weak (hR8.trans (hR57.trans (hR58.trans (hR59.trans (hR63.trans (hR64.trans (hR65.trans (hR69.trans (hR70.trans hR71)))))))))⟩


end Go.Proofs.Ytfajmfdoemjacaa.B

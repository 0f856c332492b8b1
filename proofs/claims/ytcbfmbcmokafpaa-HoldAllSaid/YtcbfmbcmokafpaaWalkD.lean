import Derived.Test.YtcbfmbcmokafpaaWalkC
namespace Go.Proofs.Ytcbfmbcmokafpaa.B
open Go.Proofs Go.RowKit
set_option linter.unusedVariables false
set_option linter.unusedSimpArgs false
set_option maxRecDepth 100000 in
set_option maxHeartbeats 4000000 in
theorem l13_alive {w : World} {R : Kn} {L : List HP}  (hS : St w R (L))  :
    Fn Try.prog 7 #[] w (fun v w' => v = .bool true ∧ St w' R L) := by
  refine Fn.intro (n := 94) Try.func7 rfl rfl rfl ?_
  refine WR.seq ?_
  refine WR.region rfl ?_
  refine S.assignC rfl ?_
  refine WS.done ?_
  refine WR.seq ?_
  refine WR.region rfl ?_
  refine S.call ent9 rfl (h_new hS ) rfl ?_
  rintro v13 w13 hcs13
  clear hS
  rcases hcs13 with ⟨hkl, -⟩ | ⟨hN13, bh13, bm13, rfl, hS13⟩
  · exact absurd hkl (by omega)
  have hI13 : HI 5 4 [] := HI.new (by decide) (by decide) (by decide) (by decide)
  refine S.moveT rfl ?_
  refine S.extract rfl rfl rfl ?_
  refine S.extract rfl rfl rfl ?_
  refine S.assignT rfl ?_
  refine S.assignT rfl ?_
  refine WS.done ?_
  refine WR.seq ?_
  refine WR.seq ?_
  refine WR.region rfl ?_
  refine S.moveT rfl ?_
  refine S.neq rfl rfl rfl ?_
  refine S.isFD (d := 17) rfl (by decide) ?_
  refine S.moveT rfl ?_
  refine S.moveT rfl ?_
  refine S.eqlNil Try.underlying25 rfl rfl rfl ?_
  refine S.pickF rfl rfl ?_
  refine WS.done ?_
  refine WR.condF rfl ?_
  refine WR.skip ?_
  refine WR.seq ?_
  refine WR.region rfl ?_
  refine S.moveT rfl ?_
  first
    | refine S.buildRow (vs := [.int _ _, .int _ _]) hS13 Try.underlying32 ti2 rfl rfl rfl rfl rfl rfl rfl ?_
    | refine S.buildRow hS13 Try.underlying32 ti2 rfl rfl rfl rfl rfl rfl rfl ?_
  intro b24 w24 hS24; clear hS13
  obtain ⟨R24, hR24, hro24, hSf24⟩ := hS24.keepRow (enc := encI .i64) (n := 1) [7, 8] rfl (fun _ _ => rfl)
  refine S.call ent12 rfl (h_offer hSf24 (by exact hI13) (by unfold fits; omega) (by exact hro24) (by simp [fits]) (by simp)) rfl ?_
  rintro _ w25 ⟨v25, rfl, hS25⟩
  clear hSf24
  have ho25 : offer 5 4 [] 6 [7, 8] = ([], 0, 5, [(6, 7), (7, 8)]) := by decide
  refine S.as (d := 25) rfl (v' := .tuple #[v25, .int .i64 0]) (by rw [ho25]; rfl) ?_
  have hSo25 := hS25
  rw [ho25] at hSo25
  obtain ⟨R25, hR25, hro25, hSf25⟩ := hSo25.freeze (fun _ _ => rfl)
  obtain ⟨fa25, fc25, rfl, hfl25⟩ := hro25.len
  have hI25 : HI 5 4 [(6, 7), (7, 8)] := by have h9 := (hI13.offer (first := 6) (xs := [7, 8]) (by simp) (by simp [fits])).1; rwa [ho25] at h9
  replace hro24 := hro24.mono hR25
  refine S.moveT rfl ?_
  refine S.extract rfl rfl rfl ?_
  refine S.extract rfl rfl rfl ?_
  refine S.assignT rfl ?_
  refine S.assignT rfl ?_
  refine WS.done ?_
  refine WR.seq ?_
  refine WR.region rfl ?_
  refine S.moveT rfl ?_
  refine S.call ent20 rfl (h_clone hSf25 ) rfl ?_
  rintro _ w29 ⟨bh29, bm29, rfl, hS29⟩
  clear hSf25
  refine S.assignT rfl ?_
  refine WS.done ?_
  refine WR.seq ?_
  refine WR.region rfl ?_
  refine S.moveT rfl ?_
  first
    | refine S.buildRow (vs := [.int _ _, .int _ _]) hS29 Try.underlying32 ti2 rfl rfl rfl rfl rfl rfl rfl ?_
    | refine S.buildRow hS29 Try.underlying32 ti2 rfl rfl rfl rfl rfl rfl rfl ?_
  intro b32 w32 hS32; clear hS29
  obtain ⟨R32, hR32, hro32, hSf32⟩ := hS32.keepRow (enc := encI .i64) (n := 1) [6, 99] rfl (fun _ _ => rfl)
  replace hro24 := hro24.mono hR32
  replace hro25 := hro25.mono hR32
  refine S.call ent12 rfl (h_offer ((((hSf32.at_ (i := 1) rfl).at_ (i := 1) rfl).at_ (i := 3) rfl).at_ (i := 3) rfl) (by exact hI25) (by unfold fits; omega) (by exact hro32) (by simp [fits]) (by simp)) rfl ?_
  rintro _ w33 ⟨v33, rfl, hS33⟩
  clear hSf32
  have ho33 : offer 5 4 [(6, 7), (7, 8)] 5 [6, 99] = ([6, 7, 8], 0, 8, []) := by decide
  refine S.as (d := 33) rfl (v' := .tuple #[v33, .int .i64 0]) (by rw [ho33]; rfl) ?_
  have hSo33 := hS33
  rw [ho33] at hSo33
  obtain ⟨R33, hR33, hro33, hSf33⟩ := hSo33.freeze (fun _ _ => rfl)
  obtain ⟨fa33, fc33, rfl, hfl33⟩ := hro33.len
  have hI33 : HI 8 4 [] := by have h9 := (hI25.offer (first := 5) (xs := [6, 99]) (by simp) (by simp [fits])).1; rwa [ho33] at h9
  replace hro24 := hro24.mono hR33
  replace hro25 := hro25.mono hR33
  replace hro32 := hro32.mono hR33
  refine S.moveT rfl ?_
  refine S.extract rfl rfl rfl ?_
  refine S.extract rfl rfl rfl ?_
  refine S.assignT rfl ?_
  refine S.assignT rfl ?_
  refine WS.done ?_
  refine WR.seq ?_
  refine WR.region rfl ?_
  refine S.moveT rfl ?_
  first
    | refine S.buildRow (vs := [.int _ _]) hSf33 Try.underlying32 ti2 rfl rfl rfl rfl rfl rfl rfl ?_
    | refine S.buildRow hSf33 Try.underlying32 ti2 rfl rfl rfl rfl rfl rfl rfl ?_
  intro b38 w38 hS38; clear hSf33
  obtain ⟨R38, hR38, hro38, hSf38⟩ := hS38.keepRow (enc := encI .i64) (n := 1) [1] rfl (fun _ _ => rfl)
  replace hro24 := hro24.mono hR38
  replace hro25 := hro25.mono hR38
  replace hro32 := hro32.mono hR38
  replace hro33 := hro33.mono hR38
  refine S.call ent12 rfl (h_offer hSf38 (by exact hI33) (by unfold fits; omega) (by exact hro38) (by simp [fits]) (by simp)) rfl ?_
  rintro _ w39 ⟨v39, rfl, hS39⟩
  clear hSf38
  have ho39 : offer 8 4 [] 12 [1] = ([], 1, 8, []) := by decide
  refine S.as (d := 39) rfl (v' := .tuple #[v39, .int .i64 1]) (by rw [ho39]; rfl) ?_
  have hSo39 := hS39
  rw [ho39] at hSo39
  obtain ⟨R39, hR39, hro39, hSf39⟩ := hSo39.freeze (fun _ _ => rfl)
  obtain ⟨fa39, fc39, rfl, hfl39⟩ := hro39.len
  skip
  replace hro24 := hro24.mono hR39
  replace hro25 := hro25.mono hR39
  replace hro32 := hro32.mono hR39
  replace hro33 := hro33.mono hR39
  replace hro38 := hro38.mono hR39
  refine S.moveT rfl ?_
  refine S.extract rfl rfl rfl ?_
  refine S.extract rfl rfl rfl ?_
  refine S.assignT rfl ?_
  refine S.assignT rfl ?_
  refine WS.done ?_
  refine WR.seq ?_
  refine WR.seq ?_
  refine WR.region rfl ?_
  refine S.moveT rfl ?_
  refine S.eqlNil Try.underlying25 rfl rfl rfl ?_
  refine WS.done ?_
  refine WR.condF rfl ?_
  refine WR.skip ?_
  refine WR.seq ?_
  refine WR.region rfl ?_
  refine S.moveT rfl ?_
  refine S.call ent18 rfl (h_waiting ((((hSf39.at_ (i := 1) rfl).at_ (i := 1) rfl).at_ (i := 3) rfl).at_ (i := 3) rfl) (by decide)) rfl ?_
  rintro v45 w45 hS45
  clear hSf39
  obtain ⟨R45, hR45, hro45, hSf45⟩ := hS45.freeze (fun _ _ => rfl)
  obtain ⟨fa45, fc45, rfl, hfl45⟩ := hro45.len
  replace hro24 := hro24.mono hR45
  replace hro25 := hro25.mono hR45
  replace hro32 := hro32.mono hR45
  replace hro33 := hro33.mono hR45
  replace hro38 := hro38.mono hR45
  replace hro39 := hro39.mono hR45
  refine S.assignT rfl ?_
  refine WS.done ?_
  refine WR.seq ?_
  refine WR.region rfl ?_
  refine S.moveT rfl ?_
  refine S.call ent15 rfl (h_drain hSf45 (by exact hI25)) rfl ?_
  rintro v47 w47 hS47
  clear hSf45
  obtain ⟨R47, hR47, hro47, hSf47⟩ := hS47.freeze (fun _ _ => rfl)
  obtain ⟨fa47, fc47, rfl, hfl47⟩ := hro47.len
  replace hro24 := hro24.mono hR47
  replace hro25 := hro25.mono hR47
  replace hro32 := hro32.mono hR47
  replace hro33 := hro33.mono hR47
  replace hro38 := hro38.mono hR47
  replace hro39 := hro39.mono hR47
  replace hro45 := hro45.mono hR47
  refine S.assignT rfl ?_
  refine WS.done ?_
  refine WR.seq ?_
  refine WR.region rfl ?_
  refine S.moveT rfl ?_
  refine S.lenSl Try.underlying32 rfl rfl ?_
  refine S.eql rfl rfl rfl ?_
  refine S.isTD (d := 50) rfl (by simp) ?_
  refine S.moveT rfl ?_
  refine S.moveT rfl ?_
  refine S.eql rfl rfl rfl ?_
  refine S.isTD (d := 53) rfl (by decide) ?_
  refine S.pickT rfl rfl ?_
  refine S.moveT rfl ?_
  refine S.moveT rfl ?_
  first
    | refine S.buildRow (vs := [.int _ _, .int _ _, .int _ _]) hSf47 Try.underlying32 ti2 rfl rfl rfl rfl rfl rfl rfl ?_
    | refine S.buildRow hSf47 Try.underlying32 ti2 rfl rfl rfl rfl rfl rfl rfl ?_
  intro b57 w57 hS57; clear hSf47
  obtain ⟨R57, hR57, hro57, hSf57⟩ := hS57.keepRow (enc := encI .i64) (n := 1) [6, 7, 8] rfl (fun _ _ => rfl)
  replace hro24 := hro24.mono hR57
  replace hro25 := hro25.mono hR57
  replace hro32 := hro32.mono hR57
  replace hro33 := hro33.mono hR57
  replace hro38 := hro38.mono hR57
  replace hro39 := hro39.mono hR57
  replace hro45 := hro45.mono hR57
  replace hro47 := hro47.mono hR57
  refine S.call ent14 rfl (u_same hSf57 (by exact hro33) (by exact hro57) (by decide)) rfl ?_
  rintro _ w58 ⟨rfl, hS58⟩
  clear hSf57
  refine S.isTD (d := 58) rfl (by rfl) ?_
  refine S.pickT rfl rfl ?_
  refine S.moveT rfl ?_
  refine S.moveT rfl ?_
  refine S.eql rfl rfl rfl ?_
  refine S.isTD (d := 62) rfl (by decide) ?_
  refine S.pickT rfl rfl ?_
  refine S.moveT rfl ?_
  refine S.moveT rfl ?_
  refine S.eql rfl rfl rfl ?_
  refine S.isTD (d := 66) rfl (by decide) ?_
  refine S.pickT rfl rfl ?_
  refine S.moveT rfl ?_
  refine S.moveT rfl ?_
  refine S.call ent17 rfl (h_next ((((hS58.at_ (i := 1) rfl).at_ (i := 1) rfl).at_ (i := 3) rfl).at_ (i := 3) rfl) ) rfl ?_
  rintro _ w70 ⟨rfl, hS70⟩
  clear hS58
  refine S.eql rfl rfl rfl ?_
  refine S.isTD (d := 71) rfl (by decide) ?_
  refine S.pickT rfl rfl ?_
  refine S.moveT rfl ?_
  refine S.moveT rfl ?_
  refine S.call ent17 rfl (h_next ((((hS70.at_ (i := 1) rfl).at_ (i := 1) rfl).at_ (i := 3) rfl).at_ (i := 3) rfl) ) rfl ?_
  rintro _ w75 ⟨rfl, hS75⟩
  clear hS70
  refine S.eql rfl rfl rfl ?_
  refine S.isTD (d := 76) rfl (by decide) ?_
  refine S.pickT rfl rfl ?_
  refine S.moveT rfl ?_
  refine S.moveT rfl ?_
  first
    | refine S.buildRow (vs := [.int _ _, .int _ _]) hS75 Try.underlying32 ti2 rfl rfl rfl rfl rfl rfl rfl ?_
    | refine S.buildRow hS75 Try.underlying32 ti2 rfl rfl rfl rfl rfl rfl rfl ?_
  intro b80 w80 hS80; clear hS75
  obtain ⟨R80, hR80, hro80, hSf80⟩ := hS80.keepRow (enc := encI .i64) (n := 1) [6, 7] rfl (fun _ _ => rfl)
  replace hro24 := hro24.mono hR80
  replace hro25 := hro25.mono hR80
  replace hro32 := hro32.mono hR80
  replace hro33 := hro33.mono hR80
  replace hro38 := hro38.mono hR80
  replace hro39 := hro39.mono hR80
  replace hro45 := hro45.mono hR80
  replace hro47 := hro47.mono hR80
  replace hro57 := hro57.mono hR80
  refine S.call ent14 rfl (u_same hSf80 (by exact hro45) (by exact hro80) (by decide)) rfl ?_
  rintro _ w81 ⟨rfl, hS81⟩
  clear hSf80
  refine S.isTD (d := 81) rfl (by rfl) ?_
  refine S.pickT rfl rfl ?_
  refine S.moveT rfl ?_
  refine S.moveT rfl ?_
  first
    | refine S.buildRow (vs := [.int _ _, .int _ _]) hS81 Try.underlying32 ti2 rfl rfl rfl rfl rfl rfl rfl ?_
    | refine S.buildRow hS81 Try.underlying32 ti2 rfl rfl rfl rfl rfl rfl rfl ?_
  intro b85 w85 hS85; clear hS81
  obtain ⟨R85, hR85, hro85, hSf85⟩ := hS85.keepRow (enc := encI .i64) (n := 1) [7, 8] rfl (fun _ _ => rfl)
  replace hro24 := hro24.mono hR85
  replace hro25 := hro25.mono hR85
  replace hro32 := hro32.mono hR85
  replace hro33 := hro33.mono hR85
  replace hro38 := hro38.mono hR85
  replace hro39 := hro39.mono hR85
  replace hro45 := hro45.mono hR85
  replace hro47 := hro47.mono hR85
  replace hro57 := hro57.mono hR85
  replace hro80 := hro80.mono hR85
  refine S.call ent14 rfl (u_same hSf85 (by exact hro47) (by exact hro85) (by decide)) rfl ?_
  rintro _ w86 ⟨rfl, hS86⟩
  clear hSf85
  refine S.isTD (d := 86) rfl (by rfl) ?_
  refine S.pickT rfl rfl ?_
  refine S.moveT rfl ?_
  refine S.moveT rfl ?_
  refine S.call ent18 rfl (h_waiting hS86 (by decide)) rfl ?_
  rintro v90 w90 hS90
  clear hS86
  obtain ⟨R90, hR90, hro90, hSf90⟩ := hS90.freeze (fun _ _ => rfl)
  obtain ⟨fa90, fc90, rfl, hfl90⟩ := hro90.len
  replace hro24 := hro24.mono hR90
  replace hro25 := hro25.mono hR90
  replace hro32 := hro32.mono hR90
  replace hro33 := hro33.mono hR90
  replace hro38 := hro38.mono hR90
  replace hro39 := hro39.mono hR90
  replace hro45 := hro45.mono hR90
  replace hro47 := hro47.mono hR90
  replace hro57 := hro57.mono hR90
  replace hro80 := hro80.mono hR90
  replace hro85 := hro85.mono hR90
  refine S.lenSl Try.underlying32 rfl rfl ?_
  refine S.eql rfl rfl rfl ?_
  refine S.isTD (d := 92) rfl (by simp) ?_
  refine S.pickT rfl rfl ?_
  refine S.assignT rfl ?_
  refine WS.done ?_
  refine WR.ret (ret1 rfl rfl ?_)
  exact ⟨rfl, hSf90.drop.drop.drop.drop.weak (hR24.trans (hR25.trans (hR32.trans (hR33.trans (hR38.trans (hR39.trans (hR45.trans (hR47.trans (hR57.trans (hR80.trans (hR85.trans hR90)))))))))))⟩


end Go.Proofs.Ytcbfmbcmokafpaa.B

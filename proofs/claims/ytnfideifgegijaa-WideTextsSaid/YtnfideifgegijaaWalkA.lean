import Derived.Test.YtnfideifgegijaaWalkY
namespace Go.Proofs.Ytnfideifgegijaa.B
open Go.Proofs Go.RowKit
set_option linter.unusedVariables false
set_option linter.unusedSimpArgs false
theorem prs_big : prs (sB ⟨#[45, 49, 56, 52, 52, 54, 55, 52, 52, 48, 55, 51, 55, 48, 57, 53, 53, 49, 54, 49, 55]⟩) = some (-18446744073709551617) := by
  have e : sB ⟨#[45, 49, 56, 52, 52, 54, 55, 52, 52, 48, 55, 51, 55, 48, 57, 53, 53, 49, 54, 49, 55]⟩ = 45 :: [49, 56, 52, 52, 54, 55, 52, 52, 48, 55, 51, 55, 48, 57, 53, 53, 49, 54, 49, 55] := rfl
  rw [prs_neg e, e, prsB_ok (by decide) (by rw [txt_low (by decide +kernel)]; decide +kernel)]
  decide +kernel
theorem prs_mzero : prs (sB ⟨#[45, 48]⟩) = none := by
  have e : sB ⟨#[45, 48]⟩ = 45 :: [48] := rfl
  rw [prs_neg e, e, prsB_no (by rw [txt_low (by decide +kernel)]; decide +kernel)]
theorem text_big : bS (txt (1 * 18446744073709551616 + 0)) = ⟨#[49, 56, 52, 52, 54, 55, 52, 52, 48, 55, 51, 55, 48, 57, 53, 53, 49, 54, 49, 54]⟩ := by
  rw [bS_eq (txt_byte _), txt_low (by decide +kernel)]; decide +kernel
theorem back_same {ah al h l : Int} (ha : fits ah) (hal : 0 ≤ al ∧ al < 18446744073709551616) (hh : fits h) (hW : ((bw (ah % 18446744073709551616) 8 ++ bw al 8).length = 16 ∧ h % 18446744073709551616 = bk ((bw (ah % 18446744073709551616) 8 ++ bw al 8).take 8) ∧ l = bk ((bw (ah % 18446744073709551616) 8 ++ bw al 8).drop 8)) ∨ ((bw (ah % 18446744073709551616) 8 ++ bw al 8).length ≠ 16 ∧ h = 0 ∧ l = 0)) : ah = h ∧ al = l := by
  have e1 : (bw (ah % 18446744073709551616) 8 ++ bw al 8).take 8 = bw (ah % 18446744073709551616) 8 := by
    have := bw_len (ah % 18446744073709551616) 8
    conv => lhs; rw [← this]
    exact List.take_left
  have e2 : (bw (ah % 18446744073709551616) 8 ++ bw al 8).drop 8 = bw al 8 := by
    have := bw_len (ah % 18446744073709551616) 8
    conv => lhs; rw [← this]
    exact List.drop_left
  rw [e1, e2, bk_bw8 (by omega), bk_bw8 hal, List.length_append, bw_len, bw_len] at hW
  unfold fits at ha hh
  omega
set_option maxRecDepth 100000 in
set_option maxHeartbeats 4000000 in
theorem l2_alive {w : World} {R : Kn} {L : List HP}  (hS : St w R (L))  :
    Fn Try.prog 8 #[] w (fun v w' => v = .bool true ∧ St w' R L) := by
  refine Fn.intro (n := 109) Try.func8 rfl rfl rfl ?_
  refine WR.seq ?_
  refine WR.region rfl ?_
  refine S.assignC rfl ?_
  refine WS.done ?_
  refine WR.seq ?_
  refine WR.region rfl ?_
  refine S.buildK (v := .agg #[.int .i64 (0), .int .u64 18446744073709551615]) rfl (by kernel_rfl) rfl ?_
  refine S.call ent21 rfl (w_of hS (by decide)) rfl ?_
  rintro _ w15 ⟨rfl, hS15⟩
  clear hS
  refine S.as (d := 15) rfl (tupw (by decide : wh (1) = 0) (by decide : wl (1) = 1)) ?_
  refine S.call ent9 rfl (w_add hS15 (by decide) (by decide) (by decide) (by decide)) rfl ?_
  rintro _ w16 ⟨h16, l16, e16, rfl, hW16, hS16⟩
  clear hS15
  obtain ⟨rfl, rfl, rfl⟩ : h16 = 1 ∧ l16 = 0 ∧ e16 = 0 := by
    rcases hW16 with ⟨_, k1, k2, k3⟩ | ⟨k1, _⟩
    · exact ⟨k1.trans (by decide), k2.trans (by decide), k3⟩
    · exact absurd (by decide) k1
  refine S.moveT rfl ?_
  refine S.extract rfl rfl rfl ?_
  refine S.extract rfl rfl rfl ?_
  refine S.alloc hS16 ti24 rfl rfl ?_
  intro b1 w1 hS1; clear hS16
  refine S.storeB (i := 0) hS1 rfl ti24 rfl rfl rfl rfl rfl rfl rfl rfl ?_
  intro w2001 hS2001; clear hS1
  refine S.assignT rfl ?_
  refine WS.done ?_
  refine WR.seq ?_
  refine WR.region rfl ?_
  refine S.call ent21 rfl (w_of hS2001 (by decide)) rfl ?_
  rintro _ w20 ⟨rfl, hS20⟩
  clear hS2001
  refine S.as (d := 20) rfl (tupw (by decide : wh (-1) = -1) (by decide : wl (-1) = 18446744073709551615)) ?_
  refine S.call ent21 rfl (w_of hS20 (by decide)) rfl ?_
  rintro _ w21 ⟨rfl, hS21⟩
  clear hS20
  refine S.as (d := 21) rfl (tupw (by decide : wh (1) = 0) (by decide : wl (1) = 1)) ?_
  refine S.call ent10 rfl (w_sub hS21 (by decide) (by decide) (by decide) (by decide)) rfl ?_
  rintro _ w22 ⟨h22, l22, e22, rfl, hW22, hS22⟩
  clear hS21
  obtain ⟨rfl, rfl, rfl⟩ : h22 = -1 ∧ l22 = 18446744073709551614 ∧ e22 = 0 := by
    rcases hW22 with ⟨_, k1, k2, k3⟩ | ⟨k1, _⟩
    · exact ⟨k1.trans (by decide), k2.trans (by decide), k3⟩
    · exact absurd (by decide) k1
  refine S.moveT rfl ?_
  refine S.extract rfl rfl rfl ?_
  refine S.extract rfl rfl rfl ?_
  refine S.alloc hS22 ti24 rfl rfl ?_
  intro b3 w3 hS3; clear hS22
  refine S.storeB (i := 0) hS3 rfl ti24 rfl rfl rfl rfl rfl rfl rfl rfl ?_
  intro w2002 hS2002; clear hS3
  refine S.assignT rfl ?_
  refine WS.done ?_
  refine WR.seq ?_
  refine WR.region rfl ?_
  refine S.call ent27 rfl (w_parse hS2002 (by decide)) rfl ?_
  rintro _ w26 ⟨h26, l26, b26, rfl, hf26, hP26, hS26⟩
  clear hS2002
  have hv26 : prs (sB ⟨#[45, 49, 56, 52, 52, 54, 55, 52, 52, 48, 55, 51, 55, 48, 57, 53, 53, 49, 54, 49, 55]⟩) = some (-18446744073709551617) := prs_big
  obtain ⟨rfl, rfl, rfl⟩ : h26 = -2 ∧ l26 = 18446744073709551615 ∧ b26 = true := by
    rcases hP26 with ⟨k1, k2⟩ | ⟨_, k2, _⟩
    · have k3 := Option.some.inj (k2.symm.trans hv26)
      have k4 := hf26.2
      exact ⟨by omega, by omega, k1⟩
    · rw [hv26] at k2; cases k2
  refine S.moveT rfl ?_
  refine S.extract rfl rfl rfl ?_
  refine S.extract rfl rfl rfl ?_
  skip
  refine S.alloc hS26 ti24 rfl rfl ?_
  intro b5 w5 hS5; clear hS26
  refine S.storeB (i := 0) hS5 rfl ti24 rfl rfl rfl rfl rfl rfl rfl rfl ?_
  intro w2003 hS2003; clear hS5
  refine S.assignT rfl ?_
  refine WS.done ?_
  refine WR.seq ?_
  refine WR.region rfl ?_
  refine S.loadBA (i := 0) hS2003 rfl Try.underlying24 rfl ti24 rfl rfl rfl rfl ?_
  refine S.call ent31 rfl (w_bytes hS2003 (by decide) (by decide)) rfl ?_
  rintro v31 w31 hS31
  clear hS2003
  obtain ⟨R31, hR31, hro31, hSf31⟩ := hS31.freeze (fun _ _ => rfl)
  refine S.call ent32 rfl (w_wback hSf31 (by exact hro31) (by exact (fun x hx => (List.mem_append.1 hx).elim (bw_byte _ _ x) (bw_byte _ _ x)))) rfl ?_
  rintro _ w32 ⟨h32, l32, rfl, hf32, hW32, hS32⟩
  clear hSf31
  obtain ⟨rfl, rfl⟩ := back_same (by decide) (by decide) hf32.1 hW32
  refine S.moveT rfl ?_
  refine S.extract rfl rfl rfl ?_
  refine S.extract rfl rfl rfl ?_
  refine S.isTD (d := 34) rfl (by rw [List.length_append, bw_len, bw_len]) ?_
  refine S.alloc hS32 ti24 rfl rfl ?_
  intro b7 w7 hS7; clear hS32
  refine S.storeB (i := 0) hS7 rfl ti24 rfl rfl rfl rfl rfl rfl rfl rfl ?_
  intro w2004 hS2004; clear hS7
  refine S.assignT rfl ?_
  refine WS.done ?_
  refine WR.seq ?_
  refine WR.region rfl ?_
  refine S.call ent21 rfl (w_of hS2004 (by decide)) rfl ?_
  rintro _ w36 ⟨rfl, hS36⟩
  clear hS2004
  refine S.as (d := 36) rfl (tupw (by decide : wh (-7) = -1) (by decide : wl (-7) = 18446744073709551609)) ?_
  refine S.call ent11 rfl (w_long hS36 (by decide) (by decide)) rfl ?_
  rintro _ w37 ⟨x37, rfl, hx37, hy37, hS37⟩
  clear hS36
  obtain rfl : x37 = -7 := (hx37 (by decide)).trans (by decide)
  refine S.moveT rfl ?_
  refine S.extract rfl rfl rfl ?_
  refine S.extract rfl rfl rfl ?_
  refine S.isTD (d := 39) rfl (by decide) ?_
  refine S.assignT rfl ?_
  refine S.assignT rfl ?_
  refine WS.done ?_
  refine WR.seq ?_
  refine WR.region rfl ?_
  refine S.call ent27 rfl (w_parse hS37 (by decide)) rfl ?_
  rintro _ w41 ⟨h41, l41, b41, rfl, hf41, hP41, hS41⟩
  clear hS37
  obtain ⟨rfl, rfl, rfl⟩ : h41 = 0 ∧ l41 = 0 ∧ b41 = false := by
    rcases hP41 with ⟨_, k2⟩ | ⟨k1, _, k2, k3⟩
    · rw [prs_mzero] at k2; cases k2
    · exact ⟨k2, k3, k1⟩
  refine S.moveT rfl ?_
  refine S.extract rfl rfl rfl ?_
  refine S.extract rfl rfl rfl ?_
  skip
  refine S.alloc hS41 ti24 rfl rfl ?_
  intro b11 w11 hS11; clear hS41
  refine S.storeB (i := 0) hS11 rfl ti24 rfl rfl rfl rfl rfl rfl rfl rfl ?_
  intro w2005 hS2005; clear hS11
  refine S.assignT rfl ?_
  refine WS.done ?_
  refine WR.seq ?_
  refine WR.region rfl ?_
  refine S.moveT rfl ?_
  refine S.eql rfl rfl rfl ?_
  refine S.isTD (d := 45) rfl (by decide) ?_
  refine S.moveT rfl ?_
  refine S.loadBA (i := 4) hS2005 rfl Try.underlying24 rfl ti24 rfl rfl rfl rfl ?_
  refine S.buildK (v := .agg #[.int .i64 (1), .int .u64 0]) rfl (by kernel_rfl) rfl ?_
  refine S.eqlS rfl rfl (by kernel_rfl) (Eq1.struct Try.underlying24 (by kernel_rfl) (EqF.cons (by decide) (Part1.one Try.underlying2 rfl rfl) (Part1.one Try.underlying2 rfl rfl) (Eq1.int Try.underlying2) (EqF.one (by decide) (Part1.one Try.underlying22 rfl rfl) (Part1.one Try.underlying22 rfl rfl) (Eq1.int Try.underlying22)))) rfl ?_
  refine S.isTD (d := 49) rfl (by decide) ?_
  refine S.pickT rfl rfl ?_
  refine S.moveT rfl ?_
  refine S.moveT rfl ?_
  refine S.eql rfl rfl rfl ?_
  refine S.isTD (d := 53) rfl (by decide) ?_
  refine S.pickT rfl rfl ?_
  refine S.moveT rfl ?_
  refine S.loadBA (i := 3) hS2005 rfl Try.underlying24 rfl ti24 rfl rfl rfl rfl ?_
  refine S.buildStruct [.int _ _, .int _ _] [(0, 1), (1, 1)] Try.underlying24 ti24 rfl (by kernel_rfl) rfl rfl rfl rfl rfl rfl ?_
  refine S.eqlS rfl rfl (by kernel_rfl) (Eq1.struct Try.underlying24 (by kernel_rfl) (EqF.cons (by decide) (Part1.one Try.underlying2 rfl rfl) (Part1.one Try.underlying2 rfl rfl) (Eq1.int Try.underlying2) (EqF.one (by decide) (Part1.one Try.underlying22 rfl rfl) (Part1.one Try.underlying22 rfl rfl) (Eq1.int Try.underlying22)))) rfl ?_
  refine S.isTD (d := 58) rfl (by decide) ?_
  refine S.pickT rfl rfl ?_
  refine S.moveT rfl ?_
  refine S.moveT rfl ?_
  refine S.pickT rfl rfl ?_
  refine S.moveT rfl ?_
  refine S.loadBA (i := 2) hS2005 rfl Try.underlying24 rfl ti24 rfl rfl rfl rfl ?_
  refine S.buildStruct [.int _ _, .int _ _] [(0, 1), (1, 1)] Try.underlying24 ti24 rfl (by kernel_rfl) rfl rfl rfl rfl rfl rfl ?_
  refine S.eqlS rfl rfl (by kernel_rfl) (Eq1.struct Try.underlying24 (by kernel_rfl) (EqF.cons (by decide) (Part1.one Try.underlying2 rfl rfl) (Part1.one Try.underlying2 rfl rfl) (Eq1.int Try.underlying2) (EqF.one (by decide) (Part1.one Try.underlying22 rfl rfl) (Part1.one Try.underlying22 rfl rfl) (Eq1.int Try.underlying22)))) rfl ?_
  refine S.isTD (d := 66) rfl (by decide) ?_
  refine S.pickT rfl rfl ?_
  refine S.moveT rfl ?_
  refine S.moveT rfl ?_
  refine S.pickT rfl rfl ?_
  refine S.moveT rfl ?_
  refine S.loadBA (i := 2) hS2005 rfl Try.underlying24 rfl ti24 rfl rfl rfl rfl ?_
  refine S.loadBA (i := 1) hS2005 rfl Try.underlying24 rfl ti24 rfl rfl rfl rfl ?_
  refine S.eqlS rfl rfl (by kernel_rfl) (Eq1.struct Try.underlying24 (by kernel_rfl) (EqF.cons (by decide) (Part1.one Try.underlying2 rfl rfl) (Part1.one Try.underlying2 rfl rfl) (Eq1.int Try.underlying2) (EqF.one (by decide) (Part1.one Try.underlying22 rfl rfl) (Part1.one Try.underlying22 rfl rfl) (Eq1.int Try.underlying22)))) rfl ?_
  refine S.isTD (d := 74) rfl (by decide) ?_
  refine S.pickT rfl rfl ?_
  refine S.moveT rfl ?_
  refine S.moveT rfl ?_
  refine S.eql rfl rfl rfl ?_
  refine S.isTD (d := 78) rfl (by decide) ?_
  refine S.pickT rfl rfl ?_
  refine S.moveT rfl ?_
  refine S.moveT rfl ?_
  refine S.pickT rfl rfl ?_
  refine S.moveT rfl ?_
  refine S.moveT rfl ?_
  refine S.not rfl rfl ?_
  refine S.pickT rfl rfl ?_
  refine S.moveT rfl ?_
  refine S.loadBA (i := 4) hS2005 rfl Try.underlying24 rfl ti24 rfl rfl rfl rfl ?_
  refine S.loadBA (i := 3) hS2005 rfl Try.underlying24 rfl ti24 rfl rfl rfl rfl ?_
  refine S.call ent17 rfl (w_cmp hS2005 (by decide) (by decide)) rfl ?_
  rintro _ w90 ⟨rfl, hS90⟩
  clear hS2005
  refine S.eql rfl rfl rfl ?_
  refine S.isTD (d := 91) rfl (by decide) ?_
  refine S.pickT rfl rfl ?_
  refine S.moveT rfl ?_
  refine S.loadBA (i := 4) hS90 rfl Try.underlying24 rfl ti24 rfl rfl rfl rfl ?_
  refine S.call ent26 rfl (w_text hS90 (by decide) (by decide)) rfl ?_
  rintro _ w95 ⟨rfl, hS95⟩
  clear hS90
  refine S.eqlStr rfl rfl rfl ?_
  refine S.isTD (d := 96) rfl (by exact text_big) ?_
  refine S.pickT rfl rfl ?_
  refine S.moveT rfl ?_
  refine S.call ent22 rfl (w_times hS95 (by decide) (by decide)) rfl ?_
  rintro _ w99 ⟨rfl, hS99⟩
  clear hS95
  refine S.buildK (v := .agg #[.int .i64 (-1), .int .u64 0]) rfl (by kernel_rfl) rfl ?_
  refine S.eqlS rfl rfl (by kernel_rfl) (Eq1.struct Try.underlying24 (by kernel_rfl) (EqF.cons (by decide) (Part1.one Try.underlying2 rfl rfl) (Part1.one Try.underlying2 rfl rfl) (Eq1.int Try.underlying2) (EqF.one (by decide) (Part1.one Try.underlying22 rfl rfl) (Part1.one Try.underlying22 rfl rfl) (Eq1.int Try.underlying22)))) rfl ?_
  refine S.isTD (d := 101) rfl (by decide) ?_
  refine S.pickT rfl rfl ?_
  refine S.moveT rfl ?_
  first
    | refine S.buildRow (vs := [.int _ _, .int _ _, .int _ _]) hS99 Try.underlying42 ti2 rfl rfl rfl rfl rfl rfl rfl ?_
    | refine S.buildRow hS99 Try.underlying42 ti2 rfl rfl rfl rfl rfl rfl rfl ?_
  intro b104 w104 hS104; clear hS99
  obtain ⟨R104, hR104, hro104, hSf104⟩ := hS104.keepRow (enc := encI .i64) (n := 1) [1, 2, -5] rfl (fun _ _ => rfl)
  replace hro31 := hro31.mono hR104
  refine S.call ent23 rfl (w_sum hSf104 (by exact hro104) (by decide) (by decide)) rfl ?_
  rintro _ w105 ⟨rfl, hS105⟩
  clear hSf104
  refine S.call ent21 rfl (w_of hS105 (by decide)) rfl ?_
  rintro _ w106 ⟨rfl, hS106⟩
  clear hS105
  refine S.eqlS rfl rfl (by kernel_rfl) (Eq1.struct Try.underlying24 (by kernel_rfl) (EqF.cons (by decide) (Part1.one Try.underlying2 rfl rfl) (Part1.one Try.underlying2 rfl rfl) (Eq1.int Try.underlying2) (EqF.one (by decide) (Part1.one Try.underlying22 rfl rfl) (Part1.one Try.underlying22 rfl rfl) (Eq1.int Try.underlying22)))) rfl ?_
  refine S.isTD (d := 107) rfl (by decide) ?_
  refine S.pickT rfl rfl ?_
  refine S.assignT rfl ?_
  refine WS.done ?_
  refine WR.ret (ret1 rfl rfl ?_)
  exact ⟨rfl, hS106.drop.drop.drop.drop.drop.weak (hR31.trans hR104)⟩


end Go.Proofs.Ytnfideifgegijaa.B

import Derived.Test.YtmmdbincgianaaaWalkC
namespace Go.Proofs.Ytmmdbincgianaaa.B
open Go.Proofs Go.RowKit
set_option linter.unusedVariables false
set_option linter.unusedSimpArgs false
section
variable {P : Program} {n : Nat} {x y : Code} {Q : Exit → Regs → World → Prop} {r : Regs} {w : World}
theorem WR.cutE {J : Regs → Regs → World → Prop} (h : WR P n x (thenR (J r) Q) r w) (h2 : ∀ rr w', J r rr w' → WR P n y Q rr w') : WR P n (.seq x y) Q r w := WR.cut (J r) h h2
end
theorem tup3c {a b c c' : Value} (h3 : c = c') : Value.tuple #[a, b, c] = Value.tuple #[a, b, c'] := by rw [h3]
theorem wfit_q (x : Int) : wfit x ↔ fits (x / 18446744073709551616) := by unfold wfit fits; omega
theorem wh_q {x : Int} (h : fits (x / 18446744073709551616)) : wh x = x / 18446744073709551616 := by unfold fits at h; unfold wh; omega
theorem word_dig : dig [0, 0, 0, 0, 1] := fun d h => by simp at h; omega
theorem word_num {R : Kn} {s : Option Addr} {c : Nat} (h : Ro R (encI .i64) 1 (.slice s 5 c) [0, 0, 0, 0, 1]) : NumR R (.agg #[.bool false, .slice s 5 c]) 18446744073709551616 :=
  ⟨false, _, [0, 0, 0, 0, 1], rfl, h, word_dig, .inr (by decide), (fun h => by cases h), by decide⟩
theorem word_big : (Int.natAbs 18446744073709551616 : Int) < big := lt_big (by decide)
theorem quot_f (x : Int) : quot x 18446744073709551616 false = x / 18446744073709551616 := rfl
theorem words_low {x h : Int} {ng : Bool} {ds : List Int} (hf : fits (x / 18446744073709551616)) (hh : h = x / 18446744073709551616) (hd : dig ds) (hc : canon ds) (hz : x + -(h * 18446744073709551616) = (if ng = true then - val ds else val ds)) : val ds = wl x ∧ ds.length ≤ 4 := by
  have h1 := num_abs hd hz
  have h2 : wl x = x % 18446744073709551616 := rfl
  have h3 : val ds = wl x := by omega
  exact ⟨h3, canon_len hd hc (by rw [h3, h2]; show _ < (65536 : Int) ^ 4; omega)⟩
theorem vd_le {a : List Int} (h : dig a) (i : Nat) : vd a i ≤ val a := by
  have h1 := vt_vd a i
  have h2 := vt_nonneg h i
  have h3 := vd_nonneg h i
  have h4 := pw_pos i
  have h5 : 1 * vd a i ≤ pw i * vd a i := Int.mul_le_mul_of_nonneg_right (by omega) h3
  omega
set_option maxRecDepth 100000 in
set_option maxHeartbeats 4000000 in
theorem r2_num {w : World} {R : Kn} {L : List HP}  (hS : St w R (L)) {h l : Int} (hh : fits h) (hl : (0 ≤ l ∧ l < 18446744073709551616)) :
    Fn Try.prog 43 #[.int .i64 h, .int .u64 l] w (fun v w' => ∃ R', R.le R' ∧ NumR R' v (h * 18446744073709551616 + l) ∧ St w' R' L) := by
  have hhb := id hh
  unfold fits at hhb
  refine Fn.intro (n := 15) Try.func43 rfl rfl rfl ?_
  refine WR.seq ?_
  refine WR.region rfl ?_
  refine S.alloc hS ti43 rfl rfl ?_
  intro b4 w4 hS4; clear hS
  refine WS.done ?_
  refine WR.seq ?_
  refine WR.region rfl ?_
  first
    | refine S.buildRow (vs := [.int _ _, .int _ _, .int _ _, .int _ _, .int _ _]) hS4 Try.underlying41 ti3 rfl rfl rfl rfl rfl rfl rfl ?_
    | refine S.buildRow hS4 Try.underlying41 ti3 rfl rfl rfl rfl rfl rfl rfl ?_
  intro b6 w6 hS6; clear hS4
  obtain ⟨R6, hR6, hro6, hSf6⟩ := hS6.keepRow (enc := encI .i64) (n := 1) [0, 0, 0, 0, 1] rfl (fun _ _ => rfl)
  have hMw := word_num hro6
  refine S.buildK (v := .agg #[.bool false, .slice (some ⟨b6, 0, none⟩) 5 5]) rfl (by kernel_rfl) rfl ?_
  refine S.alloc hSf6 ti43 rfl rfl ?_
  intro b5 w5 hS5; clear hSf6
  refine S.storeB (i := 0) hS5 rfl ti43 rfl rfl rfl rfl rfl rfl rfl rfl ?_
  intro w2001 hS2001; clear hS5
  refine WS.done ?_
  refine WR.seq ?_
  refine WR.regionW (fun j => Nat.beq j 7) 8 rfl mixed hS2001 ?_
  intro w6002 hS6002; clear hS2001; have hC := hS6002
  refine WA.take (fuel := 7) 0 rfl (by kernel_rfl) (by kernel_rfl) (by kernel_rfl) (by kernel_rfl) rfl rfl hC ?_
  refine Q.moveT rfl ?_
  refine WQ.done ?_
  refine WA.take (fuel := 6) 2 rfl (by kernel_rfl) (by kernel_rfl) (by kernel_rfl) (by kernel_rfl) rfl rfl hC ?_
  refine Q.loadBA (i := 0) rfl Try.underlying43 rfl ti43 rfl rfl rfl rfl ?_
  refine WQ.done ?_
  refine WA.take (fuel := 5) 4 rfl (by kernel_rfl) (by kernel_rfl) (by kernel_rfl) (by kernel_rfl) rfl rfl hC ?_
  refine Q.moveT rfl ?_
  refine WQ.done ?_
  refine WA.one (fuel := 4) 1 rfl (by kernel_rfl) rfl ?_
  refine S.call ent16 rfl (r_of hS6002 (by exact hh)) rfl ?_
  rintro v9 w9 ⟨R9, hR9, hN9, hS9⟩
  clear hS6002
  have hM9 := hN9
  obtain ⟨ng9, s9, ds9, rfl, hro9, hd9, hcn9, hnz9, hz9⟩ := hN9
  obtain ⟨aa9, cc9, rfl, hll9⟩ := hro9.len
  replace hro6 := hro6.mono hR9
  replace hMw := hMw.mono hR9
  refine WS.done ⟨fun _ => (hS9.weak hR9), ?_⟩
  replace hC := (hS9.weak hR9)
  refine WA.one (fuel := 3) 3 rfl (by kernel_rfl) rfl ?_
  refine S.call ent40 rfl (r_mul hS9 (by exact hM9) (by exact hMw) (by exact fits_big hh) (by exact word_big)) rfl ?_
  rintro v11 w11 ⟨R11, hR11, hN11, hS11⟩
  clear hS9
  have hM11 := hN11
  obtain ⟨ng11, s11, ds11, rfl, hro11, hd11, hcn11, hnz11, hz11⟩ := hN11
  obtain ⟨aa11, cc11, rfl, hll11⟩ := hro11.len
  replace hro6 := hro6.mono hR11
  replace hMw := hMw.mono hR11
  replace hro9 := hro9.mono hR11
  refine WS.done ⟨fun _ => ((hS11.weak hR11).weak hR9), ?_⟩
  replace hC := ((hS11.weak hR11).weak hR9)
  refine WA.one (fuel := 2) 5 rfl (by kernel_rfl) rfl ?_
  refine S.call ent36 rfl (r_whole hS11 (by omega)) rfl ?_
  rintro v13 w13 ⟨R13, hR13, hN13, hS13⟩
  clear hS11
  have hM13 := hN13
  obtain ⟨ng13, s13, ds13, rfl, hro13, hd13, hcn13, hnz13, hz13⟩ := hN13
  obtain ⟨aa13, cc13, rfl, hll13⟩ := hro13.len
  replace hro6 := hro6.mono hR13
  replace hMw := hMw.mono hR13
  replace hro9 := hro9.mono hR13
  replace hro11 := hro11.mono hR13
  refine WS.done ⟨fun _ => (((hS13.weak hR13).weak hR11).weak hR9), ?_⟩
  replace hC := (((hS13.weak hR13).weak hR11).weak hR9)
  refine WA.one (fuel := 1) 6 rfl (by kernel_rfl) rfl ?_
  refine S.call ent15 rfl (r_add hS13 (by exact hM11.mono hR13) (by exact hM13) (by exact prod_big (by omega) (by omega)) (by exact lt_big (by omega))) rfl ?_
  rintro v14 w14 ⟨R14, hR14, hN14, hS14⟩
  clear hS13
  have hM14 := hN14
  obtain ⟨ng14, s14, ds14, rfl, hro14, hd14, hcn14, hnz14, hz14⟩ := hN14
  obtain ⟨aa14, cc14, rfl, hll14⟩ := hro14.len
  replace hro6 := hro6.mono hR14
  replace hMw := hMw.mono hR14
  replace hro9 := hro9.mono hR14
  replace hro11 := hro11.mono hR14
  replace hro13 := hro13.mono hR14
  refine WS.done ⟨fun _ => ((((hS14.weak hR14).weak hR13).weak hR11).weak hR9), ?_⟩
  replace hC := ((((hS14.weak hR14).weak hR13).weak hR11).weak hR9)
  refine WA.one (fuel := 0) 7 rfl (by kernel_rfl) rfl ?_
  refine S.storeB (i := 1) hS14 rfl ti43 rfl rfl rfl rfl rfl rfl rfl rfl ?_
  intro w2003 hS2003; clear hS14
  refine WS.done ⟨fun h => absurd h (by decide), ?_⟩
  refine WA.done (by kernel_rfl) ?_
  clear hC
  refine WR.ret (retC rfl rfl (run_loadBA (i := 1) hS2003 rfl Try.underlying43 rfl ti43 rfl rfl) ?_)
  exact ⟨_, hR6.trans (hR9.trans (hR11.trans (hR13.trans hR14))), ⟨ng14, _, ds14, rfl, hro14, hd14, hcn14, hnz14, hz14⟩, hS2003.drop.drop⟩

set_option maxRecDepth 100000 in
set_option maxHeartbeats 4000000 in
theorem r2_words {w : World} {R : Kn} {L : List HP}  (hS : St w R (L)) {v0 : Value} {x : Int} (h0 : NumR R v0 x) (hbx : (x.natAbs : Int) < 115792089237316195423570985008687907853269984665640564039457584007913129639936) :
    Fn Try.prog 17 #[v0] w (fun v w' => ∃ h l, v = .tuple #[.int .i64 h, .int .u64 l, .bool (decide (wfit x))] ∧ ((wfit x ∧ h = wh x ∧ l = wl x) ∨ (¬ wfit x ∧ h = 0 ∧ l = 0)) ∧ St w' R L) := by
  have hM0 := h0
  obtain ⟨ng0, s0, ds0, rfl, hro0, hd0, hcn0, hnz0, hz0⟩ := h0
  obtain ⟨a0, c0, rfl, hl0⟩ := hro0.len
  have hbx2 : (x.natAbs : Int) < big := lt_big hbx
  have hqe := quot_f x
  refine Fn.intro (n := 48) Try.func17 rfl rfl rfl ?_
  refine WR.seq ?_
  refine WR.region rfl ?_
  refine S.box hS rfl rfl rfl ?_
  intro b1 w1 hS1; clear hS
  refine S.assignC rfl ?_
  refine S.assignC rfl ?_
  refine S.assignC rfl ?_
  refine WS.done ?_
  refine WR.seq ?_
  refine WR.region rfl ?_
  first
    | refine S.buildRow (vs := [.int _ _, .int _ _, .int _ _, .int _ _, .int _ _]) hS1 Try.underlying41 ti3 rfl rfl rfl rfl rfl rfl rfl ?_
    | refine S.buildRow hS1 Try.underlying41 ti3 rfl rfl rfl rfl rfl rfl rfl ?_
  intro b11 w11 hS11; clear hS1
  obtain ⟨R11, hR11, hro11, hSf11⟩ := hS11.keepRow (enc := encI .i64) (n := 1) [0, 0, 0, 0, 1] rfl (fun _ _ => rfl)
  have hMw := word_num hro11
  replace hM0 := hM0.mono hR11
  refine S.buildK (v := .agg #[.bool false, .slice (some ⟨b11, 0, none⟩) 5 5]) rfl (by kernel_rfl) rfl ?_
  refine S.alloc hSf11 ti43 rfl rfl ?_
  intro b5 w5 hS5; clear hSf11
  refine S.storeB (i := 0) hS5 rfl ti43 rfl rfl rfl rfl rfl rfl rfl rfl ?_
  intro w2001 hS2001; clear hS5
  refine WS.done ?_
  refine WR.seq ?_
  refine WR.region rfl ?_
  refine S.loadBA (i := 1) hS2001 rfl Try.underlying43 rfl ti43 rfl rfl rfl rfl ?_
  refine S.loadBA (i := 0) hS2001 rfl Try.underlying43 rfl ti43 rfl rfl rfl rfl ?_
  refine S.call ent38 rfl (r_div hS2001 (by exact hM0) (by exact hMw) (by exact hbx2) (by exact word_big) (by decide)) rfl ?_
  rintro v16 w16 ⟨R16, hR16, hN16, hS16⟩
  clear hS2001
  have hM16 := hN16
  obtain ⟨ng16, s16, ds16, rfl, hro16, hd16, hcn16, hnz16, hz16⟩ := hN16
  obtain ⟨aa16, cc16, rfl, hll16⟩ := hro16.len
  replace hM0 := hM0.mono hR16
  replace hro11 := hro11.mono hR16
  replace hMw := hMw.mono hR16
  refine S.call ent37 rfl (r_long hS16 (by exact hM16)) rfl ?_
  rintro _ w17 ⟨x17, rfl, hf17, hS17⟩
  clear hS16
  rw [hqe] at hf17
  refine S.moveT rfl ?_
  refine S.extract rfl rfl rfl ?_
  refine S.extract rfl rfl rfl ?_
  refine S.assignT rfl ?_
  refine S.assignT rfl ?_
  refine WS.done ?_
  refine WR.seq ?_
  refine WR.seq ?_
  refine WR.region rfl ?_
  refine S.moveT rfl ?_
  refine S.not rfl rfl ?_
  refine WS.done ?_
  refine WR.cond rfl (fun c21 => ?_) (fun c21 => ?_)
  ·
    skip
    refine WR.seq ?_
    refine WR.region rfl ?_
    refine S.assignC rfl ?_
    refine S.assignC rfl ?_
    refine S.assignC rfl ?_
    refine WS.done ?_
    refine WR.ret (ret3 rfl rfl rfl rfl ?_)
    have hnf : ¬ fits (x / 18446744073709551616) := by rw [← hqe]; simpa using c21
    exact ⟨_, _, tup3c (congrArg Value.bool (decide_eq_false (fun h => hnf ((wfit_q x).1 h))).symm), .inr ⟨fun h => hnf ((wfit_q x).1 h), rfl, rfl⟩, hS17.drop.drop.weak (hR11.trans hR16)⟩
  ·
    skip
    refine WR.skip ?_
    refine WR.cutE (J := fun rq rr wr => ∃ (b8 : Nat) (R8 : Kn) (ng8 : Bool) (s8 : Option Addr) (c8 : Nat) (ds8 : List Int), (R.le R8 ∧ Ro R8 (encI .i64) 1 (.slice s8 ds8.length c8) ds8 ∧ dig ds8 ∧ val ds8 = wl x ∧ ds8.length ≤ 4 ∧ fits (x / 18446744073709551616) ∧ x17 = x / 18446744073709551616) ∧ rr 8 = .pointer (some ⟨b8, 0, none⟩) ∧ Agr [6] rr rq ∧ St wr R8 (blk b8 (.cells (#[.bool ng8, .slice s8 ds8.length c8]) 43 (0, 0)) :: blk b5 (.cells (#[.bool false, .slice (some ⟨b11, 0, none⟩) 5 5]) 43 (0, 0)) :: blk b1 (.cells (#[.bool ng0, .slice a0 ds0.length c0]) 43 (0, 0)) :: L)) ?_ ?_
    ·
      skip
      have hqf : fits (x / 18446744073709551616) := by rw [← hqe]; simpa using c21
      have hqx := hf17 hqf
      subst hqx
      have hqf2 := id hqf
      unfold fits at hqf2
      refine WR.regionW (fun j => Nat.beq j 8) 9 rfl mixed hS17 ?_
      intro w6003 hS6003; clear hS17; have hC := hS6003
      refine WA.take (fuel := 8) 0 rfl (by kernel_rfl) (by kernel_rfl) (by kernel_rfl) (by kernel_rfl) rfl rfl hC ?_
      refine Q.loadBA (i := 1) rfl Try.underlying43 rfl ti43 rfl rfl rfl rfl ?_
      refine WQ.done ?_
      refine WA.take (fuel := 7) 1 rfl (by kernel_rfl) (by kernel_rfl) (by kernel_rfl) (by kernel_rfl) rfl rfl hC ?_
      refine Q.moveT rfl ?_
      refine WQ.done ?_
      refine WA.take (fuel := 6) 3 rfl (by kernel_rfl) (by kernel_rfl) (by kernel_rfl) (by kernel_rfl) rfl rfl hC ?_
      refine Q.loadBA (i := 0) rfl Try.underlying43 rfl ti43 rfl rfl rfl rfl ?_
      refine WQ.done ?_
      refine WA.two (fuel := 5) 2 7 rfl rfl (by kernel_rfl) rfl ?_ ?_
      ·
        skip
        refine S.call ent16 rfl (r_of hS6003 (by exact hqf)) rfl ?_
        rintro v24 w24 ⟨R24, hR24, hN24, hS24⟩
        clear hS6003
        have hM24 := hN24
        obtain ⟨ng24, s24, ds24, rfl, hro24, hd24, hcn24, hnz24, hz24⟩ := hN24
        obtain ⟨aa24, cc24, rfl, hll24⟩ := hro24.len
        replace hM0 := hM0.mono hR24
        replace hro11 := hro11.mono hR24
        replace hMw := hMw.mono hR24
        replace hro16 := hro16.mono hR24
        refine WS.done ⟨fun _ => (hS24.weak hR24), ?_⟩
        replace hC := (hS24.weak hR24)
        refine WA.two (fuel := 4) 4 7 rfl rfl (by kernel_rfl) rfl ?_ ?_
        ·
          skip
          refine S.call ent40 rfl (r_mul hS24 (by exact hM24) (by exact hMw) (by exact fits_big hqf) (by exact word_big)) rfl ?_
          rintro v26 w26 ⟨R26, hR26, hN26, hS26⟩
          clear hS24
          have hM26 := hN26
          obtain ⟨ng26, s26, ds26, rfl, hro26, hd26, hcn26, hnz26, hz26⟩ := hN26
          obtain ⟨aa26, cc26, rfl, hll26⟩ := hro26.len
          replace hM0 := hM0.mono hR26
          replace hro11 := hro11.mono hR26
          replace hMw := hMw.mono hR26
          replace hro16 := hro16.mono hR26
          replace hro24 := hro24.mono hR26
          refine WS.done ⟨fun _ => ((hS26.weak hR26).weak hR24), ?_⟩
          replace hC := ((hS26.weak hR26).weak hR24)
          refine WA.two (fuel := 3) 5 7 rfl rfl (by kernel_rfl) rfl ?_ ?_
          ·
            skip
            refine S.call ent39 rfl (r_neg hS26 (by exact hM26) (by exact lt_big (by omega))) rfl ?_
            rintro v27 w27 ⟨hN27, hS27⟩
            clear hS26
            have hM27 := hN27
            obtain ⟨ng27, s27, ds27, rfl, hro27, hd27, hcn27, hnz27, hz27⟩ := hN27
            obtain ⟨aa27, cc27, rfl, hll27⟩ := hro27.len
            refine WS.done ⟨fun _ => ((hS27.weak hR26).weak hR24), ?_⟩
            replace hC := ((hS27.weak hR26).weak hR24)
            refine WA.two (fuel := 2) 6 7 rfl rfl (by kernel_rfl) rfl ?_ ?_
            ·
              skip
              refine S.call ent15 rfl (r_add hS27 (by exact hM0) (by exact hM27) (by exact hbx2) (by rw [Int.natAbs_neg]; exact lt_big (by omega))) rfl ?_
              rintro v28 w28 ⟨R28, hR28, hN28, hS28⟩
              clear hS27
              have hM28 := hN28
              obtain ⟨ng28, s28, ds28, rfl, hro28, hd28, hcn28, hnz28, hz28⟩ := hN28
              obtain ⟨aa28, cc28, rfl, hll28⟩ := hro28.len
              replace hM0 := hM0.mono hR28
              replace hro11 := hro11.mono hR28
              replace hMw := hMw.mono hR28
              replace hro16 := hro16.mono hR28
              replace hro24 := hro24.mono hR28
              replace hro26 := hro26.mono hR28
              replace hro27 := hro27.mono hR28
              refine WS.done ⟨fun _ => (((hS28.weak hR28).weak hR26).weak hR24), ?_⟩
              replace hC := (((hS28.weak hR28).weak hR26).weak hR24)
              refine WA.one (fuel := 1) 7 rfl (by kernel_rfl) rfl ?_
              refine S.alloc hS28 ti43 rfl rfl ?_
              intro b8 w8 hS8; clear hS28
              refine WS.done ⟨fun _ => (((hS8.drop.weak hR28).weak hR26).weak hR24), ?_⟩
              replace hC := (((hS8.drop.weak hR28).weak hR26).weak hR24)
              refine WA.one (fuel := 0) 8 rfl (by kernel_rfl) rfl ?_
              refine S.storeB (i := 0) hS8 rfl ti43 rfl rfl rfl rfl rfl rfl rfl rfl ?_
              intro w2004 hS2004; clear hS8
              refine WS.done ⟨fun h => absurd h (by decide), ?_⟩
              refine WA.done (by kernel_rfl) ?_
              clear hC
              have hlw := words_low hqf rfl hd28 hcn28 hz28
              exact ⟨b8, _, _, _, _, _, (by exact ⟨hR11.trans (hR16.trans (hR24.trans (hR26.trans hR28))), hro28, hd28, hlw.1, hlw.2, hqf, rfl⟩), rfl, ⟨rfl, trivial⟩, hS2004⟩
            ·
              skip
              refine S.alloc hS27 ti43 rfl rfl ?_
              intro b8 w8 hS8; clear hS27
              refine WS.done ⟨fun _ => ((hS8.drop.weak hR26).weak hR24), ?_⟩
              replace hC := ((hS8.drop.weak hR26).weak hR24)
              refine WA.one (fuel := 1) 6 rfl (by kernel_rfl) rfl ?_
              refine S.call ent15 rfl (r_add hS8 (by exact hM0) (by exact hM27) (by exact hbx2) (by rw [Int.natAbs_neg]; exact lt_big (by omega))) rfl ?_
              rintro v28 w28 ⟨R28, hR28, hN28, hS28⟩
              clear hS8
              have hM28 := hN28
              obtain ⟨ng28, s28, ds28, rfl, hro28, hd28, hcn28, hnz28, hz28⟩ := hN28
              obtain ⟨aa28, cc28, rfl, hll28⟩ := hro28.len
              replace hM0 := hM0.mono hR28
              replace hro11 := hro11.mono hR28
              replace hMw := hMw.mono hR28
              replace hro16 := hro16.mono hR28
              replace hro24 := hro24.mono hR28
              replace hro26 := hro26.mono hR28
              replace hro27 := hro27.mono hR28
              refine WS.done ⟨fun _ => (((hS28.drop.weak hR28).weak hR26).weak hR24), ?_⟩
              replace hC := (((hS28.drop.weak hR28).weak hR26).weak hR24)
              refine WA.one (fuel := 0) 8 rfl (by kernel_rfl) rfl ?_
              refine S.storeB (i := 0) hS28 rfl ti43 rfl rfl rfl rfl rfl rfl rfl rfl ?_
              intro w2005 hS2005; clear hS28
              refine WS.done ⟨fun h => absurd h (by decide), ?_⟩
              refine WA.done (by kernel_rfl) ?_
              clear hC
              have hlw := words_low hqf rfl hd28 hcn28 hz28
              exact ⟨b8, _, _, _, _, _, (by exact ⟨hR11.trans (hR16.trans (hR24.trans (hR26.trans hR28))), hro28, hd28, hlw.1, hlw.2, hqf, rfl⟩), rfl, ⟨rfl, trivial⟩, hS2005⟩
          ·
            skip
            refine S.alloc hS26 ti43 rfl rfl ?_
            intro b8 w8 hS8; clear hS26
            refine WS.done ⟨fun _ => ((hS8.drop.weak hR26).weak hR24), ?_⟩
            replace hC := ((hS8.drop.weak hR26).weak hR24)
            refine WA.one (fuel := 2) 5 rfl (by kernel_rfl) rfl ?_
            refine S.call ent39 rfl (r_neg hS8 (by exact hM26) (by exact lt_big (by omega))) rfl ?_
            rintro v27 w27 ⟨hN27, hS27⟩
            clear hS8
            have hM27 := hN27
            obtain ⟨ng27, s27, ds27, rfl, hro27, hd27, hcn27, hnz27, hz27⟩ := hN27
            obtain ⟨aa27, cc27, rfl, hll27⟩ := hro27.len
            refine WS.done ⟨fun _ => ((hS27.drop.weak hR26).weak hR24), ?_⟩
            replace hC := ((hS27.drop.weak hR26).weak hR24)
            refine WA.one (fuel := 1) 6 rfl (by kernel_rfl) rfl ?_
            refine S.call ent15 rfl (r_add hS27 (by exact hM0) (by exact hM27) (by exact hbx2) (by rw [Int.natAbs_neg]; exact lt_big (by omega))) rfl ?_
            rintro v28 w28 ⟨R28, hR28, hN28, hS28⟩
            clear hS27
            have hM28 := hN28
            obtain ⟨ng28, s28, ds28, rfl, hro28, hd28, hcn28, hnz28, hz28⟩ := hN28
            obtain ⟨aa28, cc28, rfl, hll28⟩ := hro28.len
            replace hM0 := hM0.mono hR28
            replace hro11 := hro11.mono hR28
            replace hMw := hMw.mono hR28
            replace hro16 := hro16.mono hR28
            replace hro24 := hro24.mono hR28
            replace hro26 := hro26.mono hR28
            replace hro27 := hro27.mono hR28
            refine WS.done ⟨fun _ => (((hS28.drop.weak hR28).weak hR26).weak hR24), ?_⟩
            replace hC := (((hS28.drop.weak hR28).weak hR26).weak hR24)
            refine WA.one (fuel := 0) 8 rfl (by kernel_rfl) rfl ?_
            refine S.storeB (i := 0) hS28 rfl ti43 rfl rfl rfl rfl rfl rfl rfl rfl ?_
            intro w2006 hS2006; clear hS28
            refine WS.done ⟨fun h => absurd h (by decide), ?_⟩
            refine WA.done (by kernel_rfl) ?_
            clear hC
            have hlw := words_low hqf rfl hd28 hcn28 hz28
            exact ⟨b8, _, _, _, _, _, (by exact ⟨hR11.trans (hR16.trans (hR24.trans (hR26.trans hR28))), hro28, hd28, hlw.1, hlw.2, hqf, rfl⟩), rfl, ⟨rfl, trivial⟩, hS2006⟩
        ·
          skip
          refine S.alloc hS24 ti43 rfl rfl ?_
          intro b8 w8 hS8; clear hS24
          refine WS.done ⟨fun _ => (hS8.drop.weak hR24), ?_⟩
          replace hC := (hS8.drop.weak hR24)
          refine WA.one (fuel := 3) 4 rfl (by kernel_rfl) rfl ?_
          refine S.call ent40 rfl (r_mul hS8 (by exact hM24) (by exact hMw) (by exact fits_big hqf) (by exact word_big)) rfl ?_
          rintro v26 w26 ⟨R26, hR26, hN26, hS26⟩
          clear hS8
          have hM26 := hN26
          obtain ⟨ng26, s26, ds26, rfl, hro26, hd26, hcn26, hnz26, hz26⟩ := hN26
          obtain ⟨aa26, cc26, rfl, hll26⟩ := hro26.len
          replace hM0 := hM0.mono hR26
          replace hro11 := hro11.mono hR26
          replace hMw := hMw.mono hR26
          replace hro16 := hro16.mono hR26
          replace hro24 := hro24.mono hR26
          refine WS.done ⟨fun _ => ((hS26.drop.weak hR26).weak hR24), ?_⟩
          replace hC := ((hS26.drop.weak hR26).weak hR24)
          refine WA.one (fuel := 2) 5 rfl (by kernel_rfl) rfl ?_
          refine S.call ent39 rfl (r_neg hS26 (by exact hM26) (by exact lt_big (by omega))) rfl ?_
          rintro v27 w27 ⟨hN27, hS27⟩
          clear hS26
          have hM27 := hN27
          obtain ⟨ng27, s27, ds27, rfl, hro27, hd27, hcn27, hnz27, hz27⟩ := hN27
          obtain ⟨aa27, cc27, rfl, hll27⟩ := hro27.len
          refine WS.done ⟨fun _ => ((hS27.drop.weak hR26).weak hR24), ?_⟩
          replace hC := ((hS27.drop.weak hR26).weak hR24)
          refine WA.one (fuel := 1) 6 rfl (by kernel_rfl) rfl ?_
          refine S.call ent15 rfl (r_add hS27 (by exact hM0) (by exact hM27) (by exact hbx2) (by rw [Int.natAbs_neg]; exact lt_big (by omega))) rfl ?_
          rintro v28 w28 ⟨R28, hR28, hN28, hS28⟩
          clear hS27
          have hM28 := hN28
          obtain ⟨ng28, s28, ds28, rfl, hro28, hd28, hcn28, hnz28, hz28⟩ := hN28
          obtain ⟨aa28, cc28, rfl, hll28⟩ := hro28.len
          replace hM0 := hM0.mono hR28
          replace hro11 := hro11.mono hR28
          replace hMw := hMw.mono hR28
          replace hro16 := hro16.mono hR28
          replace hro24 := hro24.mono hR28
          replace hro26 := hro26.mono hR28
          replace hro27 := hro27.mono hR28
          refine WS.done ⟨fun _ => (((hS28.drop.weak hR28).weak hR26).weak hR24), ?_⟩
          replace hC := (((hS28.drop.weak hR28).weak hR26).weak hR24)
          refine WA.one (fuel := 0) 8 rfl (by kernel_rfl) rfl ?_
          refine S.storeB (i := 0) hS28 rfl ti43 rfl rfl rfl rfl rfl rfl rfl rfl ?_
          intro w2007 hS2007; clear hS28
          refine WS.done ⟨fun h => absurd h (by decide), ?_⟩
          refine WA.done (by kernel_rfl) ?_
          clear hC
          have hlw := words_low hqf rfl hd28 hcn28 hz28
          exact ⟨b8, _, _, _, _, _, (by exact ⟨hR11.trans (hR16.trans (hR24.trans (hR26.trans hR28))), hro28, hd28, hlw.1, hlw.2, hqf, rfl⟩), rfl, ⟨rfl, trivial⟩, hS2007⟩
      ·
        skip
        refine S.alloc hS6003 ti43 rfl rfl ?_
        intro b8 w8 hS8; clear hS6003
        refine WS.done ⟨fun _ => hS8.drop, ?_⟩
        replace hC := hS8.drop
        refine WA.one (fuel := 4) 2 rfl (by kernel_rfl) rfl ?_
        refine S.call ent16 rfl (r_of hS8 (by exact hqf)) rfl ?_
        rintro v24 w24 ⟨R24, hR24, hN24, hS24⟩
        clear hS8
        have hM24 := hN24
        obtain ⟨ng24, s24, ds24, rfl, hro24, hd24, hcn24, hnz24, hz24⟩ := hN24
        obtain ⟨aa24, cc24, rfl, hll24⟩ := hro24.len
        replace hM0 := hM0.mono hR24
        replace hro11 := hro11.mono hR24
        replace hMw := hMw.mono hR24
        replace hro16 := hro16.mono hR24
        refine WS.done ⟨fun _ => (hS24.drop.weak hR24), ?_⟩
        replace hC := (hS24.drop.weak hR24)
        refine WA.one (fuel := 3) 4 rfl (by kernel_rfl) rfl ?_
        refine S.call ent40 rfl (r_mul hS24 (by exact hM24) (by exact hMw) (by exact fits_big hqf) (by exact word_big)) rfl ?_
        rintro v26 w26 ⟨R26, hR26, hN26, hS26⟩
        clear hS24
        have hM26 := hN26
        obtain ⟨ng26, s26, ds26, rfl, hro26, hd26, hcn26, hnz26, hz26⟩ := hN26
        obtain ⟨aa26, cc26, rfl, hll26⟩ := hro26.len
        replace hM0 := hM0.mono hR26
        replace hro11 := hro11.mono hR26
        replace hMw := hMw.mono hR26
        replace hro16 := hro16.mono hR26
        replace hro24 := hro24.mono hR26
        refine WS.done ⟨fun _ => ((hS26.drop.weak hR26).weak hR24), ?_⟩
        replace hC := ((hS26.drop.weak hR26).weak hR24)
        refine WA.one (fuel := 2) 5 rfl (by kernel_rfl) rfl ?_
        refine S.call ent39 rfl (r_neg hS26 (by exact hM26) (by exact lt_big (by omega))) rfl ?_
        rintro v27 w27 ⟨hN27, hS27⟩
        clear hS26
        have hM27 := hN27
        obtain ⟨ng27, s27, ds27, rfl, hro27, hd27, hcn27, hnz27, hz27⟩ := hN27
        obtain ⟨aa27, cc27, rfl, hll27⟩ := hro27.len
        refine WS.done ⟨fun _ => ((hS27.drop.weak hR26).weak hR24), ?_⟩
        replace hC := ((hS27.drop.weak hR26).weak hR24)
        refine WA.one (fuel := 1) 6 rfl (by kernel_rfl) rfl ?_
        refine S.call ent15 rfl (r_add hS27 (by exact hM0) (by exact hM27) (by exact hbx2) (by rw [Int.natAbs_neg]; exact lt_big (by omega))) rfl ?_
        rintro v28 w28 ⟨R28, hR28, hN28, hS28⟩
        clear hS27
        have hM28 := hN28
        obtain ⟨ng28, s28, ds28, rfl, hro28, hd28, hcn28, hnz28, hz28⟩ := hN28
        obtain ⟨aa28, cc28, rfl, hll28⟩ := hro28.len
        replace hM0 := hM0.mono hR28
        replace hro11 := hro11.mono hR28
        replace hMw := hMw.mono hR28
        replace hro16 := hro16.mono hR28
        replace hro24 := hro24.mono hR28
        replace hro26 := hro26.mono hR28
        replace hro27 := hro27.mono hR28
        refine WS.done ⟨fun _ => (((hS28.drop.weak hR28).weak hR26).weak hR24), ?_⟩
        replace hC := (((hS28.drop.weak hR28).weak hR26).weak hR24)
        refine WA.one (fuel := 0) 8 rfl (by kernel_rfl) rfl ?_
        refine S.storeB (i := 0) hS28 rfl ti43 rfl rfl rfl rfl rfl rfl rfl rfl ?_
        intro w2008 hS2008; clear hS28
        refine WS.done ⟨fun h => absurd h (by decide), ?_⟩
        refine WA.done (by kernel_rfl) ?_
        clear hC
        have hlw := words_low hqf rfl hd28 hcn28 hz28
        exact ⟨b8, _, _, _, _, _, (by exact ⟨hR11.trans (hR16.trans (hR24.trans (hR26.trans hR28))), hro28, hd28, hlw.1, hlw.2, hqf, rfl⟩), rfl, ⟨rfl, trivial⟩, hS2008⟩
    ·
      skip
      rintro rr w8002 ⟨b8, R8, ng8, s8, c8, ds8, ⟨hR8, hro8, hd8, hv8, hl8, hqf, hqx⟩, hr8002_8, hA8002, hS8002⟩
      obtain ⟨rr, rfl⟩ := agrBack hA8002
      clear hA8002
      obtain ⟨rr, rfl⟩ := back1 (r := rr) hr8002_8
      clear hr8002_8
      clear hS17
      refine WR.seq ?_
      refine WR.region rfl ?_
      refine S.assignC rfl ?_
      refine WS.done ?_
      refine WR.seq ?_
      refine WR.seq ?_
      refine WR.region rfl ?_
      refine S.fieldB Try.underlying43 rfl ti41 rfl rfl rfl rfl ?_
      refine S.loadB (i := 0) hS8002 rfl Try.underlying41 rfl rfl rfl rfl ?_
      refine S.lenSl Try.underlying41 rfl rfl ?_
      first
        | refine S.subN rfl rfl rfl (by omega) ?_
        | refine S.sub rfl rfl rfl ?_
      refine S.assignT rfl ?_
      refine WS.done ?_
      refine WR.block ?_
      refine WR.loopE (fun rq mm rr wr => ∃ (n : Nat), mm = n ∧ (n ≤ ds8.length) ∧ rr 9 = .int .u64 (vd ds8 n) ∧ rr 10 = .int .i64 ((n : Int) - 1) ∧ Agr [6, 8] rr rq ∧ St wr R8 (blk b8 (.cells (#[.bool ng8, .slice s8 ds8.length c8]) 43 (0, 0)) :: blk b5 (.cells (#[.bool false, .slice (some ⟨b11, 0, none⟩) 5 5]) 43 (0, 0)) :: blk b1 (.cells (#[.bool ng0, .slice a0 ds0.length c0]) 43 (0, 0)) :: L)) ⟨ds8.length, rfl, (by exact Nat.le_refl _), (by exact congrArg (Value.int .u64) (vd_ge (Nat.le_refl _)).symm), rfl, ⟨rfl, rfl, trivial⟩, hS8002⟩ ?_
      rintro mm rr w1001 ⟨n, hm1001, hn, hr1001_9, hr1001_10, hA1001, hS1001⟩
      obtain ⟨rr, rfl⟩ := agrBack hA1001
      clear hA1001
      obtain ⟨rr, rfl⟩ := back2 (r := rr) hr1001_9 hr1001_10
      clear hr1001_9 hr1001_10
      have hvn := vd_le hd8 n
      have hvp := vd_nonneg hd8 n
      have hwl := (w_range x).2
      have hvl := vd_le hd8 (n - 1)
      have hvs := vd_step ds8 (n - 1)
      have hll := lb_dig hd8 (n - 1)
      refine WR.seq ?_
      refine WR.seq ?_
      refine WR.region rfl ?_
      refine S.moveT rfl ?_
      refine S.geq rfl rfl rfl ?_
      refine WS.done ?_
      refine WR.condD rfl (fun c34 => ?_) (fun c34 => ?_)
      ·
        skip
        refine WR.skip ?_
        refine WR.seq ?_
        refine WR.block ?_
        rw [show n - 1 + 1 = n by omega] at hvs
        refine WR.region rfl ?_
        refine S.moveT rfl ?_
        first
          | refine S.mulU rfl rfl rfl (by omega) ?_
          | refine S.mul rfl rfl rfl ?_
        refine S.fieldB Try.underlying43 rfl ti41 rfl rfl rfl rfl ?_
        refine S.loadB (i := 0) hS1001 rfl Try.underlying41 rfl rfl rfl rfl ?_
        refine S.moveT rfl ?_
        refine S.indexRo hro8 Try.underlying41 ti3 rfl rfl (by omega) rfl ?_
        intro ad42 u42 hu42 hl42 hc42
        refine S.loadRo hS1001 hc42 rfl Try.underlying3 rfl rfl rfl ?_
        have h2 : lb ds8 (n - 1) = u42 := lb_some (by rw [show ((n : Int) - 1).toNat = n - 1 by omega] at hu42; exact hu42)
        first
          | refine S.convN Try.underlying3 Try.underlying38 rfl rfl (wrap_u64 (by omega) (by omega)) ?_
          | refine S.conv Try.underlying3 Try.underlying38 rfl rfl ?_
        first
          | refine S.addU rfl rfl rfl (by omega) ?_
          | refine S.add rfl rfl rfl ?_
        refine S.assignT rfl ?_
        refine WS.done ?_
        refine WR.region rfl ?_
        refine S.moveT rfl ?_
        first
          | refine S.subN rfl rfl rfl (by omega) ?_
          | refine S.sub rfl rfl rfl ?_
        refine S.assignT rfl ?_
        refine WS.done ?_
        exact ⟨_, (by omega), ⟨n - 1, rfl, (by omega), (by exact congrArg (Value.int .u64) (by omega)), (by exact congrArg (Value.int .i64) (by omega)), ⟨rfl, rfl, trivial⟩, hS1001⟩⟩
      ·
        skip
        refine WR.exit ?_
        refine WR.seq ?_
        refine WR.region rfl ?_
        refine S.moveT rfl ?_
        refine S.moveT rfl ?_
        refine S.assignT rfl ?_
        refine S.assignT rfl ?_
        refine S.assignC rfl ?_
        refine WS.done ?_
        refine WR.ret (ret3 rfl rfl rfl rfl ?_)
        obtain rfl : n = 0 := by omega
        exact ⟨_, _, tup3c (congrArg Value.bool (decide_eq_true ((wfit_q x).2 hqf)).symm), .inl ⟨(wfit_q x).2 hqf, hqx.trans (wh_q hqf).symm, hv8⟩, hS1001.drop.drop.drop.weak hR8⟩

set_option maxRecDepth 100000 in
set_option maxHeartbeats 4000000 in
theorem h5_rank {w : World} {R : Kn} {L : List HP}  (hS : St w R (L)) {xs : List Int} (hl : xs.length = 65) (hf : ∀ x ∈ xs, fits x) {ah al : Int} (ha : fits ah) (hal : 0 ≤ al ∧ al < 18446744073709551616) :
    Fn Try.prog 20 #[aV xs, .int .i64 ah, .int .u64 al] w (fun v w' => ∃ x, v = .int .i64 x ∧ rkP xs (ah * 18446744073709551616 + al) x ∧ St w' R L) := by
  have hah := id ha
  unfold fits at hah
  refine Fn.intro (n := 37) Try.func20 rfl rfl rfl ?_
  refine WR.seq ?_
  refine WR.region rfl ?_
  refine S.box (v := aV _) (cs := aI _) hS rfl rfl rfl ?_
  intro b3 w3 hS3; clear hS
  refine S.assignC rfl ?_
  refine WS.done ?_
  refine WR.seq ?_
  refine WR.seq ?_
  refine WR.region rfl ?_
  refine S.loadArr (i := 0) hS3 rfl Try.underlying25 ti25 (by first | assumption | exact rfl | exact tab_len | exact ofL_len | exact mrg_len | exact mixL_len | exact halfL_len | (rw [List.length_set]; first | assumption | exact ofL_len | exact mixL_len | exact halfL_len)) rfl rfl ?_
  refine S.call ent30 rfl (h5_right hS3 (by exact hl)) rfl ?_
  rintro _ w11 ⟨rfl, hS11⟩
  clear hS3
  refine S.notD rfl rfl ?_
  refine S.moveT rfl ?_
  refine S.splitD (d := 13) rfl (fun c13 => ?_) (fun c13 => ?_)
  ·
    skip
    refine S.off rfl ?_
    refine S.off rfl ?_
    refine S.pickTC rfl rfl ?_
    refine WS.done ?_
    refine WR.condT rfl ?_
    refine WR.seq ?_
    refine WR.region rfl ?_
    refine S.assignC rfl ?_
    refine WS.done ?_
    refine WR.ret (ret1 rfl rfl ?_)
    exact ⟨-1, rfl, .inl ⟨.inl (by simpa using c13), rfl⟩, hS11.drop⟩
  ·
    skip
    refine S.moveT rfl ?_
    refine S.lss rfl rfl rfl ?_
    refine S.pickF rfl rfl ?_
    refine WS.done ?_
    refine WR.condD rfl (fun c16 => ?_) (fun c16 => ?_)
    ·
      skip
      refine WR.seq ?_
      refine WR.region rfl ?_
      refine S.assignC rfl ?_
      refine WS.done ?_
      refine WR.ret (ret1 rfl rfl ?_)
      exact ⟨-1, rfl, .inl ⟨.inr (by omega), rfl⟩, hS11.drop⟩
    ·
      skip
      refine WR.skip ?_
      refine WR.seq ?_
      obtain ⟨hrg, hah0⟩ : rgt xs ∧ 0 ≤ ah := by exact ⟨by simpa using c13, by omega⟩
      refine WR.region rfl ?_
      refine S.moveT rfl ?_
      refine S.moveT rfl ?_
      refine S.call ent43 rfl (r2_num hS11 (by exact ha) (by exact hal)) rfl ?_
      rintro v19 w19 ⟨R19, hR19, hN19, hS19⟩
      clear hS11
      have hM19 := hN19
      obtain ⟨ng19, s19, ds19, rfl, hro19, hd19, hcn19, hnz19, hz19⟩ := hN19
      obtain ⟨aa19, cc19, rfl, hll19⟩ := hro19.len
      refine S.alloc hS19 ti43 rfl rfl ?_
      intro b7 w7 hS7; clear hS19
      refine S.storeB (i := 0) hS7 rfl ti43 rfl rfl rfl rfl rfl rfl rfl rfl ?_
      intro w2001 hS2001; clear hS7
      refine WS.done ?_
      refine WR.seq ?_
      refine WR.seq ?_
      refine WR.region rfl ?_
      refine S.assignC rfl ?_
      refine WS.done ?_
      refine WR.block ?_
      refine WR.loopE (fun rq mm rr wr => ∃ (i : Nat) (R2 : Kn) (ng : Bool) (ac : Option Addr) (dm : List Int) (acp : Nat), mm = 65 - i ∧ (i ≤ 65 ∧ (∀ b < i, psum xs (b + 1) ≤ (ah * 18446744073709551616 + al)) ∧ R.le R2 ∧ NumR R2 (.agg #[.bool ng, .slice ac dm.length acp]) ((ah * 18446744073709551616 + al) - psum xs i)) ∧ rr 8 = .int .i64 (i : Int) ∧ Agr [3, 7] rr rq ∧ St wr R2 (blk b7 (.cells (#[.bool ng, .slice ac dm.length acp]) 43 (0, 0)) :: blk b3 (.cells (aI xs) 25 (0, 0)) :: L)) ⟨0, R19, _, _, _, _, rfl, (by exact ⟨by omega, fun b hb => absurd hb (by omega), hR19, by rw [psum_zero, Int.sub_zero]; exact hM19⟩), rfl, ⟨rfl, rfl, trivial⟩, hS2001⟩ ?_
      rintro mm rr w1001 ⟨i, R2, ng, ac, dm, acp, hm1001, ⟨hi, hall, hR2, hML⟩, hr1001_8, hA1001, hS1001⟩
      obtain ⟨rr, rfl⟩ := agrBack hA1001
      clear hA1001
      obtain ⟨rr, rfl⟩ := back1 (r := rr) hr1001_8
      clear hr1001_8
      refine WR.seq ?_
      refine WR.seq ?_
      refine WR.region rfl ?_
      refine S.moveT rfl ?_
      refine S.lss rfl rfl rfl ?_
      refine WS.done ?_
      refine WR.condD rfl (fun c21 => ?_) (fun c21 => ?_)
      ·
        skip
        refine WR.skip ?_
        refine WR.seq ?_
        refine WR.block ?_
        refine WR.seq ?_
        refine WR.region rfl ?_
        refine S.moveT rfl ?_
        refine S.ixArr Try.underlying25 ti2 rfl rfl (by omega) rfl ?_
        refine S.loadAtG (m := 65) (i := 1) hS1001 rfl Try.underlying2 rfl rfl (by first | assumption | exact rfl | exact tab_len | exact ofL_len | exact mrg_len | exact mixL_len | exact halfL_len | (rw [List.length_set]; first | assumption | exact ofL_len | exact mixL_len | exact halfL_len)) (by omega) rfl ?_
        first | refine S.as (d := 26) rfl (congrArg (Value.int .i64) gd_nat) ?_ | skip
        have hfi := hf _ (getD_mem (k := i) (show i < xs.length by omega))
        have hpa := psum_abs hf hl i
        refine S.call ent16 rfl (r_of hS1001 (by exact hfi)) rfl ?_
        rintro v27 w27 ⟨R27, hR27, hN27, hS27⟩
        clear hS1001
        have hM27 := hN27
        obtain ⟨ng27, s27, ds27, rfl, hro27, hd27, hcn27, hnz27, hz27⟩ := hN27
        obtain ⟨aa27, cc27, rfl, hll27⟩ := hro27.len
        refine S.alloc hS27 ti43 rfl rfl ?_
        intro b9 w9 hS9; clear hS27
        refine S.storeB (i := 0) hS9 rfl ti43 rfl rfl rfl rfl rfl rfl rfl rfl ?_
        intro w2002 hS2002; clear hS9
        refine WS.done ?_
        refine WR.seq ?_
        refine WR.seq ?_
        refine WR.region rfl ?_
        refine S.loadBA (i := 1) hS2002 rfl Try.underlying43 rfl ti43 rfl rfl rfl rfl ?_
        refine S.loadBA (i := 0) hS2002 rfl Try.underlying43 rfl ti43 rfl rfl rfl rfl ?_
        refine S.call ent44 rfl (r_cmp hS2002 (by exact hML.mono hR27) (by exact hM27) (by exact lt_big (by omega)) (by exact fits_big hfi)) rfl ?_
        rintro _ w30 ⟨rfl, hS30⟩
        clear hS2002
        have hps := psum_succ (h := xs) (b := i) (by omega)
        refine S.lss rfl rfl rfl ?_
        refine WS.done ?_
        refine WR.condD rfl (fun c31 => ?_) (fun c31 => ?_)
        ·
          skip
          refine WR.seq ?_
          refine WR.region rfl ?_
          refine S.moveT rfl ?_
          refine S.assignT rfl ?_
          refine WS.done ?_
          refine WR.ret (ret1 rfl rfl ?_)
          exact ⟨(i : Int), rfl, .inr (.inr ⟨i, hrg, by omega, by omega, hall, by have := cmp_lt.1 c31; omega, rfl⟩), hS30.drop.drop.drop.weak (hR2.trans hR27)⟩
        ·
          skip
          refine WR.skip ?_
          refine WR.regionW (fun j => Nat.beq j 4) 5 rfl mixed hS30 ?_
          intro w6003 hS6003; clear hS30; have hC := hS6003
          refine WA.take (fuel := 4) 0 rfl (by kernel_rfl) (by kernel_rfl) (by kernel_rfl) (by kernel_rfl) rfl rfl hC ?_
          refine Q.loadBA (i := 1) rfl Try.underlying43 rfl ti43 rfl rfl rfl rfl ?_
          refine WQ.done ?_
          refine WA.take (fuel := 3) 1 rfl (by kernel_rfl) (by kernel_rfl) (by kernel_rfl) (by kernel_rfl) rfl rfl hC ?_
          refine Q.loadBA (i := 0) rfl Try.underlying43 rfl ti43 rfl rfl rfl rfl ?_
          refine WQ.done ?_
          refine WA.one (fuel := 2) 2 rfl (by kernel_rfl) rfl ?_
          refine S.call ent39 rfl (r_neg hS6003 (by exact hM27) (by exact fits_big hfi)) rfl ?_
          rintro v35 w35 ⟨hN35, hS35⟩
          clear hS6003
          have hM35 := hN35
          obtain ⟨ng35, s35, ds35, rfl, hro35, hd35, hcn35, hnz35, hz35⟩ := hN35
          obtain ⟨aa35, cc35, rfl, hll35⟩ := hro35.len
          refine WS.done ⟨fun _ => hS35, ?_⟩
          replace hC := hS35
          refine WA.one (fuel := 1) 3 rfl (by kernel_rfl) rfl ?_
          refine S.call ent15 rfl (r_add hS35 (by exact hML.mono hR27) (by exact hM35) (by exact lt_big (by omega)) (by rw [Int.natAbs_neg]; exact fits_big hfi)) rfl ?_
          rintro v36 w36 ⟨R36, hR36, hN36, hS36⟩
          clear hS35
          have hM36 := hN36
          obtain ⟨ng36, s36, ds36, rfl, hro36, hd36, hcn36, hnz36, hz36⟩ := hN36
          obtain ⟨aa36, cc36, rfl, hll36⟩ := hro36.len
          replace hro27 := hro27.mono hR36
          replace hro35 := hro35.mono hR36
          refine WS.done ⟨fun _ => (hS36.weak hR36), ?_⟩
          replace hC := (hS36.weak hR36)
          refine WA.one (fuel := 0) 4 rfl (by kernel_rfl) rfl ?_
          refine S.storeB (i := 1) hS36 rfl ti43 rfl rfl rfl rfl rfl rfl rfl rfl ?_
          intro w2004 hS2004; clear hS36
          refine WS.done ⟨fun h => absurd h (by decide), ?_⟩
          refine WA.done (by kernel_rfl) ?_
          clear hC
          refine WR.region rfl ?_
          refine S.moveT rfl ?_
          first
            | refine S.addN rfl rfl rfl (by omega) ?_
            | refine S.add rfl rfl rfl ?_
          refine S.assignT rfl ?_
          refine WS.done ?_
          exact ⟨_, (by omega), ⟨i + 1, R36, _, _, _, _, rfl, (by exact ⟨by omega, all_succ hall (by have := mt cmp_lt.2 c31; omega), hR2.trans (hR27.trans hR36), by rw [show (ah * 18446744073709551616 + al) - psum xs (i + 1) = (ah * 18446744073709551616 + al) - psum xs i + -(xs.getD i 0) by omega]; exact hM36⟩), rfl, ⟨rfl, rfl, trivial⟩, hS2004.drop⟩⟩
      ·
        skip
        refine WR.exit ?_
        refine WR.seq ?_
        refine WR.region rfl ?_
        refine S.assignC rfl ?_
        refine WS.done ?_
        refine WR.ret (ret1 rfl rfl ?_)
        obtain rfl : i = 65 := by omega
        exact ⟨-1, rfl, .inr (.inl ⟨hrg, by omega, hall, rfl⟩), hS1001.drop.drop.weak hR2⟩

set_option maxRecDepth 100000 in
set_option maxHeartbeats 4000000 in
theorem h_full {w : World} {R : Kn} {L : List HP}  (hS : St w R (L)) {xs : List Int} (hl : xs.length = 65) :
    Fn Try.prog 21 #[aV xs] w (fun v w' => ∃ R' b, R.le R' ∧ v = .func (.func 45) #[] #[.pointer (some ⟨b, 0, none⟩)] ∧ Ro R' (encI .i64) 1 (.slice (some ⟨b, 0, none⟩) xs.length xs.length) xs ∧ St w' R' L) := by
  refine Fn.intro (n := 4) Try.func21 rfl rfl rfl ?_
  refine WR.seq ?_
  refine WR.region rfl ?_
  refine S.box (v := aV _) (cs := aI _) hS rfl rfl rfl ?_
  intro b1 w1 hS1; clear hS
  obtain ⟨R1, hR1, hro1, hSf1⟩ := hS1.keepRow (enc := encI .i64) (n := 1) xs (aI_flat _) (fun _ _ => rfl)
  refine S.noFunc rfl ?_
  refine WS.done ?_
  refine WR.seq ?_
  refine WR.region rfl ?_
  refine S.mkFunc rfl rfl ?_
  refine S.assignT rfl ?_
  refine WS.done ?_
  refine WR.ret (ret1 rfl rfl ?_)
  exact ⟨R1, b1, hR1, rfl, hro1, hSf1⟩

set_option maxRecDepth 100000 in
set_option maxHeartbeats 4000000 in
theorem full_iter {R0 : Kn} {b : Nat} {xs : List Int} (hro : Ro R0 (encI .i64) 1 (.slice (some ⟨b, 0, none⟩) xs.length xs.length) xs) (hl : xs.length = 65) :
    Iter Try.prog 45 #[.pointer (some ⟨b, 0, none⟩)] pairE (fullL xs) R0 := by
  intro l J Jx w hJS hJy hS
  refine Fn.introG (n := 20) Try.func45 rfl rfl rfl ?_
  refine WG.seq ?_
  refine WG.region rfl ?_
  obtain ⟨R9, L9, hle9, hS9⟩ := hJS _ _ hS
  refine S.loadKn hS9 (hro.mono hle9) Try.underlying26 ti26 hl rfl rfl ?_
  refine S.moveC rfl ?_
  refine WS.done ?_
  refine WG.block ?_
  refine WG.loopE (fun rq mm rr wr => ∃ (i : Nat), mm = 65 - i ∧ (i ≤ 65) ∧ rr 6 = .int .i64 (i : Int) ∧ Agr [0, 5] rr rq ∧ J (fullTo xs i) wr) ⟨0, rfl, (by omega), rfl, ⟨rfl, rfl, trivial⟩, hS⟩ ?_
  rintro mm rr w1001 ⟨i, hm1001, hi, hr1001_6, hA1001, hS1001⟩
  obtain ⟨rr, rfl⟩ := agrBack hA1001
  clear hA1001
  obtain ⟨rr, rfl⟩ := back1 (r := rr) hr1001_6
  clear hr1001_6
  refine WG.seq ?_
  refine WG.region rfl ?_
  refine S.lss rfl rfl rfl ?_
  refine WS.done ?_
  refine WG.seq ?_
  refine WG.condD rfl (fun c7 => ?_) (fun c7 => ?_)
  ·
    skip
    refine WG.skip ?_
    refine WG.seq ?_
    refine WG.block ?_
    refine WG.seq ?_
    refine WG.region rfl ?_
    refine S.moveT rfl ?_
    refine S.ixValG Try.underlying26 Try.underlying2 rfl ti2 rfl rfl (by first | assumption | exact rfl | exact tab_len | exact ofL_len | exact mrg_len | exact mixL_len | exact halfL_len | (rw [List.length_set]; first | assumption | exact ofL_len | exact mixL_len | exact halfL_len)) (by omega) rfl ?_
    first | refine S.as (d := 9) rfl (congrArg (Value.int .i64) gd_nat) ?_ | skip
    refine S.assignT rfl ?_
    refine S.assignT rfl ?_
    refine WS.done ?_
    refine WG.seq ?_
    refine WG.regionYi 6 rfl rfl rfl rfl rfl ?_
    refine S.moveT rfl ?_
    refine S.neq rfl rfl rfl ?_
    refine S.moveT rfl ?_
    refine S.splitD (d := 12) rfl (fun c12 => ?_) (fun c12 => ?_)
    ·
      skip
      refine S.moveT rfl ?_
      refine S.moveT rfl ?_
      refine S.moveT rfl ?_
      refine WS.done ?_
      obtain ⟨suf, hsuf⟩ := full_split (xs := xs) (i := i) (by omega) c12
      refine bif_T rfl ⟨l, _, exec_yield rfl rfl, (hJy _ _ suf _ hsuf hS1001).mono fun bq wq hq => ?_⟩
      clear hS1001
      rcases hq with ⟨rfl, hS16⟩ | ⟨rfl, hS16⟩
      ·
        skip
        refine S.not rfl rfl ?_
        refine S.pickT rfl rfl ?_
        refine WS.done ?_
        refine WG.condF rfl ?_
        refine WG.skip ?_
        refine WG.region rfl ?_
        first
          | refine S.addN rfl rfl rfl (by omega) ?_
          | refine S.add rfl rfl rfl ?_
        refine S.moveT rfl ?_
        refine WS.done ?_
        exact ⟨rfl, _, (by omega), ⟨i + 1, rfl, (by omega), rfl, ⟨rfl, rfl, trivial⟩, (by rw [fullTo_succ]; first | (rw [if_neg c12]; exact hS16) | (rw [if_pos (by omega), List.append_nil]; exact hS16))⟩⟩
      ·
        skip
        refine S.not rfl rfl ?_
        refine S.pickT rfl rfl ?_
        refine WS.done ?_
        refine WG.condT rfl ?_
        refine WG.ret (qm0 (ret0 rfl ?_))
        exact .inr hS16
    ·
      skip
      refine S.off rfl ?_
      refine S.off rfl ?_
      refine S.off rfl ?_
      refine WS.done ?_
      refine bif_F rfl ?_
      refine S.off rfl ?_
      refine S.pickFC rfl rfl ?_
      refine WS.done ?_
      refine WG.condF rfl ?_
      refine WG.skip ?_
      refine WG.region rfl ?_
      first
        | refine S.addN rfl rfl rfl (by omega) ?_
        | refine S.add rfl rfl rfl ?_
      refine S.moveT rfl ?_
      refine WS.done ?_
      exact ⟨rfl, _, (by omega), ⟨i + 1, rfl, (by omega), rfl, ⟨rfl, rfl, trivial⟩, (by rw [fullTo_succ]; first | (rw [if_neg c12]; exact hS1001) | (rw [if_pos (by omega), List.append_nil]; exact hS1001))⟩⟩
  ·
    skip
    refine WG.exit ?_
    refine Exists.intro [] ⟨trivial, ?_⟩
    obtain rfl : i = 65 := by omega
    exact .inl hS1001


end Go.Proofs.Ytmmdbincgianaaa.B

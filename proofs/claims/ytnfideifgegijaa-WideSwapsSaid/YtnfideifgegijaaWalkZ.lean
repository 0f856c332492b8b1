import Derived.Test.YtnfideifgegijaaWalkA
namespace Go.Proofs.Ytnfideifgegijaa.B
open Go.Proofs Go.RowKit
set_option linter.unusedVariables false
set_option linter.unusedSimpArgs false
theorem plus_same {p : Prop} {h l e h' l' e' a b : Int} (x : (p ∧ h = a ∧ l = b ∧ e = 0) ∨ (¬ p ∧ h = 0 ∧ l = 0 ∧ e = 12)) (y : (p ∧ h' = a ∧ l' = b ∧ e' = 0) ∨ (¬ p ∧ h' = 0 ∧ l' = 0 ∧ e' = 12)) : h = h' ∧ l = l' ∧ e = e' := by
  rcases x with ⟨q, x⟩ | ⟨q, x⟩ <;> rcases y with ⟨q', y⟩ | ⟨q', y⟩ <;> first | exact absurd q q' | exact absurd q' q | omega
theorem plus_ok {p : Prop} {h l e a b : Int} (x : (p ∧ h = a ∧ l = b ∧ e = 0) ∨ (¬ p ∧ h = 0 ∧ l = 0 ∧ e = 12)) (he : e = 0) : h = a ∧ l = b ∧ p := by
  rcases x with ⟨q, h1, h2, _⟩ | ⟨_, _, _, h3⟩
  · exact ⟨h1, h2, q⟩
  · omega
theorem sub_back {A B h l h' l' e' ah al : Int} (hok : h = wh (A + B) ∧ l = wl (A + B) ∧ wfit (A + B)) (ha : fits ah) (hal : 0 ≤ al ∧ al < 18446744073709551616) (hwA : wfit (ah * 18446744073709551616 + al))
    (hW : (wfit (h * 18446744073709551616 + l - B) ∧ h' = wh (h * 18446744073709551616 + l - B) ∧ l' = wl (h * 18446744073709551616 + l - B) ∧ e' = 0) ∨ (¬ wfit (h * 18446744073709551616 + l - B) ∧ h' = 0 ∧ l' = 0 ∧ e' = 12)) (hA : A = ah * 18446744073709551616 + al := by rfl) : h' = ah ∧ l' = al ∧ e' = 0 := by
  have e : h * 18446744073709551616 + l - B = ah * 18446744073709551616 + al := by
    rw [hok.1, hok.2.1, w_back hok.2.2]; omega
  rw [e] at hW
  have h2 := w_same (h := ah) (l := al) ha hal
  rcases hW with ⟨_, k1, k2, k3⟩ | ⟨k1, _⟩
  · exact ⟨k1.trans h2.1, k2.trans h2.2, k3⟩
  · exact absurd hwA k1
theorem times_wfit {a b : Int} (ha : fits a) (hb : fits b) : wfit (a * b) := by
  unfold fits at ha hb
  have h1 := Int.mul_le_mul (show (a.natAbs : Int) ≤ 9223372036854775808 by omega) (show (b.natAbs : Int) ≤ 9223372036854775808 by omega) (by omega) (by decide)
  rw [← Int.natCast_mul, ← Int.natAbs_mul] at h1
  unfold wfit; omega
theorem times_sum {x y z v : Int} (hx : fits x) (hy : fits y) (hz : fits z) (hf : fits (wh [y, z].sum * 18446744073709551616 + wl [y, z].sum)) (hv : v = wh [y, z].sum * 18446744073709551616 + wl [y, z].sum) :
    wh (x * y) * 18446744073709551616 + wl (x * y) + (wh (x * z) * 18446744073709551616 + wl (x * z)) = x * v := by
  rw [w_back (times_wfit hx hy), w_back (times_wfit hx hz), hv, w_back (by unfold fits at hy hz; simp; omega)]
  rw [← Int.mul_add]; congr 1; simp
set_option maxRecDepth 100000 in
set_option maxHeartbeats 4000000 in
theorem law_WideSwaps {w : World} {R : Kn} {L : List HP}  (hS : St w R (L)) {ah al bh bl x y z : Int} (ha : fits ah) (hal : (0 ≤ al ∧ al < 18446744073709551616)) (hb : fits bh) (hbl : (0 ≤ bl ∧ bl < 18446744073709551616)) (hx : fits x) (hy : fits y) (hz : fits z) :
    Fn Try.prog 7 #[.agg #[.int .i64 (ah), .int .u64 (al)], .agg #[.int .i64 (bh), .int .u64 (bl)], .int .i64 x, .int .i64 y, .int .i64 z] w (fun v w' => v = .bool true ∧ St w' R L) := by
  have hwA := w_in ha hal
  have hwB := w_in hb hbl
  refine Fn.intro (n := 109) Try.func7 rfl rfl rfl ?_
  refine WR.seq ?_
  refine WR.region rfl ?_
  refine S.box hS rfl rfl rfl ?_
  intro b5 w5 hS5; clear hS
  refine S.box hS5 rfl rfl rfl ?_
  intro b6 w6 hS6; clear hS5
  refine S.assignC rfl ?_
  refine WS.done ?_
  refine WR.seq ?_
  refine WR.seq ?_
  refine WR.region rfl ?_
  refine S.call ent8 rfl (l2_alive hS6 ) rfl ?_
  rintro _ w21 ⟨rfl, hS21⟩
  clear hS6
  refine S.not rfl rfl ?_
  refine WS.done ?_
  refine WR.condF rfl ?_
  refine WR.skip ?_
  refine WR.seq ?_
  refine WR.region rfl ?_
  refine S.loadBA (i := 1) hS21 rfl Try.underlying24 rfl ti24 rfl rfl rfl rfl ?_
  refine S.loadBA (i := 0) hS21 rfl Try.underlying24 rfl ti24 rfl rfl rfl rfl ?_
  refine S.call ent9 rfl (w_add hS21 (by exact ha) (by exact hal) (by exact hb) (by exact hbl)) rfl ?_
  rintro _ w26 ⟨h26, l26, e26, rfl, hW26, hS26⟩
  clear hS21
  refine S.moveT rfl ?_
  refine S.extract rfl rfl rfl ?_
  refine S.extract rfl rfl rfl ?_
  refine S.alloc hS26 ti24 rfl rfl ?_
  intro b11 w11 hS11; clear hS26
  refine S.storeB (i := 0) hS11 rfl ti24 rfl rfl rfl rfl rfl rfl rfl rfl ?_
  intro w2001 hS2001; clear hS11
  refine S.assignT rfl ?_
  refine WS.done ?_
  refine WR.seq ?_
  refine WR.region rfl ?_
  refine S.loadBA (i := 1) hS2001 rfl Try.underlying24 rfl ti24 rfl rfl rfl rfl ?_
  refine S.loadBA (i := 2) hS2001 rfl Try.underlying24 rfl ti24 rfl rfl rfl rfl ?_
  refine S.call ent9 rfl (w_add hS2001 (by exact hb) (by exact hbl) (by exact ha) (by exact hal)) rfl ?_
  rintro _ w32 ⟨h32, l32, e32, rfl, hW32, hS32⟩
  clear hS2001
  rw [Int.add_comm (bh * 18446744073709551616 + bl)] at hW32
  have hsm := plus_same hW26 hW32
  refine S.moveT rfl ?_
  refine S.extract rfl rfl rfl ?_
  refine S.extract rfl rfl rfl ?_
  refine S.alloc hS32 ti24 rfl rfl ?_
  intro b13 w13 hS13; clear hS32
  refine S.storeB (i := 0) hS13 rfl ti24 rfl rfl rfl rfl rfl rfl rfl rfl ?_
  intro w2002 hS2002; clear hS13
  refine S.assignT rfl ?_
  refine WS.done ?_
  refine WR.seq ?_
  refine WR.seq ?_
  refine WR.region rfl ?_
  refine S.loadBA (i := 1) hS2002 rfl Try.underlying24 rfl ti24 rfl rfl rfl rfl ?_
  refine S.loadBA (i := 0) hS2002 rfl Try.underlying24 rfl ti24 rfl rfl rfl rfl ?_
  refine S.neqS rfl rfl (by kernel_rfl) (Eq1.struct Try.underlying24 (by kernel_rfl) (EqF.cons (by decide) (Part1.one Try.underlying2 rfl rfl) (Part1.one Try.underlying2 rfl rfl) (Eq1.int Try.underlying2) (EqF.one (by decide) (Part1.one Try.underlying22 rfl rfl) (Part1.one Try.underlying22 rfl rfl) (Eq1.int Try.underlying22)))) rfl ?_
  refine S.isFD (d := 37) rfl (by omega) ?_
  refine S.moveT rfl ?_
  refine S.moveT rfl ?_
  refine S.moveT rfl ?_
  refine S.neq rfl rfl rfl ?_
  refine S.isFD (d := 41) rfl (by omega) ?_
  refine S.pickF rfl rfl ?_
  refine S.moveT rfl ?_
  refine S.moveT rfl ?_
  refine S.moveT rfl ?_
  refine S.call ent22 rfl (w_times hS2002 (by exact hx) (by exact hy)) rfl ?_
  rintro _ w46 ⟨rfl, hS46⟩
  clear hS2002
  refine S.moveT rfl ?_
  refine S.moveT rfl ?_
  refine S.call ent22 rfl (w_times hS46 (by exact hy) (by exact hx)) rfl ?_
  rintro _ w49 ⟨rfl, hS49⟩
  clear hS46
  refine S.neqS rfl rfl (by kernel_rfl) (Eq1.struct Try.underlying24 (by kernel_rfl) (EqF.cons (by decide) (Part1.one Try.underlying2 rfl rfl) (Part1.one Try.underlying2 rfl rfl) (Eq1.int Try.underlying2) (EqF.one (by decide) (Part1.one Try.underlying22 rfl rfl) (Part1.one Try.underlying22 rfl rfl) (Eq1.int Try.underlying22)))) rfl ?_
  refine S.isFD (d := 50) rfl (by exact fun h => h ⟨by rw [Int.mul_comm], by rw [Int.mul_comm]⟩) ?_
  refine S.pickF rfl rfl ?_
  refine S.moveT rfl ?_
  refine S.moveT rfl ?_
  refine S.moveT rfl ?_
  refine S.moveT rfl ?_
  first
    | refine S.buildRow (vs := [.int _ _, .int _ _, .int _ _]) hS49 Try.underlying42 ti2 rfl rfl rfl rfl rfl rfl rfl ?_
    | refine S.buildRow hS49 Try.underlying42 ti2 rfl rfl rfl rfl rfl rfl rfl ?_
  intro b56 w56 hS56; clear hS49
  obtain ⟨R56, hR56, hro56, hSf56⟩ := hS56.keepRow (enc := encI .i64) (n := 1) [x, y, z] rfl (fun _ _ => rfl)
  refine S.call ent23 rfl (w_sum hSf56 (by exact hro56) (by intro u hu; simp at hu; rcases hu with rfl | rfl | rfl <;> assumption) (by simp)) rfl ?_
  rintro _ w57 ⟨rfl, hS57⟩
  clear hSf56
  refine S.moveT rfl ?_
  refine S.moveT rfl ?_
  refine S.moveT rfl ?_
  first
    | refine S.buildRow (vs := [.int _ _, .int _ _, .int _ _]) hS57 Try.underlying42 ti2 rfl rfl rfl rfl rfl rfl rfl ?_
    | refine S.buildRow hS57 Try.underlying42 ti2 rfl rfl rfl rfl rfl rfl rfl ?_
  intro b61 w61 hS61; clear hS57
  obtain ⟨R61, hR61, hro61, hSf61⟩ := hS61.keepRow (enc := encI .i64) (n := 1) [z, x, y] rfl (fun _ _ => rfl)
  replace hro56 := hro56.mono hR61
  refine S.call ent23 rfl (w_sum hSf61 (by exact hro61) (by intro u hu; simp at hu; rcases hu with rfl | rfl | rfl <;> assumption) (by simp)) rfl ?_
  rintro _ w62 ⟨rfl, hS62⟩
  clear hSf61
  refine S.neqS rfl rfl (by kernel_rfl) (Eq1.struct Try.underlying24 (by kernel_rfl) (EqF.cons (by decide) (Part1.one Try.underlying2 rfl rfl) (Part1.one Try.underlying2 rfl rfl) (Eq1.int Try.underlying2) (EqF.one (by decide) (Part1.one Try.underlying22 rfl rfl) (Part1.one Try.underlying22 rfl rfl) (Eq1.int Try.underlying22)))) rfl ?_
  refine S.isFD (d := 63) rfl (by exact fun h => h ⟨congrArg wh (by simp; omega), congrArg wl (by simp; omega)⟩) ?_
  refine S.pickF rfl rfl ?_
  refine WS.done ?_
  refine WR.condF rfl ?_
  refine WR.skip ?_
  refine WR.seq ?_
  refine WR.seq ?_
  refine WR.region rfl ?_
  refine S.moveT rfl ?_
  refine S.eql rfl rfl rfl ?_
  refine WS.done ?_
  refine WR.condD rfl (fun c66 => ?_) (fun c66 => ?_)
  ·
    skip
    refine WR.seq ?_
    refine WR.region rfl ?_
    refine S.loadBA (i := 1) hS62 rfl Try.underlying24 rfl ti24 rfl rfl rfl rfl ?_
    refine S.loadBA (i := 2) hS62 rfl Try.underlying24 rfl ti24 rfl rfl rfl rfl ?_
    have hok := plus_ok hW26 (by omega)
    have hhf : fits h26 := by rw [hok.1]; exact w_fits _
    have hll : (0 ≤ l26 ∧ l26 < 18446744073709551616) := by rw [hok.2.1]; exact (w_range _).2
    refine S.call ent10 rfl (w_sub hS62 (by exact hhf) (by exact hll) (by exact hb) (by exact hbl)) rfl ?_
    rintro _ w70 ⟨h70, l70, e70, rfl, hW70, hS70⟩
    clear hS62
    have hsb := sub_back hok ha hal hwA hW70
    refine S.moveT rfl ?_
    refine S.extract rfl rfl rfl ?_
    refine S.extract rfl rfl rfl ?_
    refine S.alloc hS70 ti24 rfl rfl ?_
    intro b15 w15 hS15; clear hS70
    refine S.storeB (i := 0) hS15 rfl ti24 rfl rfl rfl rfl rfl rfl rfl rfl ?_
    intro w2003 hS2003; clear hS15
    refine S.assignT rfl ?_
    refine WS.done ?_
    refine WR.seq ?_
    refine WR.region rfl ?_
    refine S.moveT rfl ?_
    refine S.neq rfl rfl rfl ?_
    refine S.isFD (d := 74) rfl (by omega) ?_
    refine S.moveT rfl ?_
    refine S.loadBA (i := 0) hS2003 rfl Try.underlying24 rfl ti24 rfl rfl rfl rfl ?_
    refine S.loadBA (i := 4) hS2003 rfl Try.underlying24 rfl ti24 rfl rfl rfl rfl ?_
    refine S.neqS rfl rfl (by kernel_rfl) (Eq1.struct Try.underlying24 (by kernel_rfl) (EqF.cons (by decide) (Part1.one Try.underlying2 rfl rfl) (Part1.one Try.underlying2 rfl rfl) (Eq1.int Try.underlying2) (EqF.one (by decide) (Part1.one Try.underlying22 rfl rfl) (Part1.one Try.underlying22 rfl rfl) (Eq1.int Try.underlying22)))) rfl ?_
    refine S.isFD (d := 78) rfl (by omega) ?_
    refine S.pickF rfl rfl ?_
    refine WS.done ?_
    refine WR.condF rfl ?_
    refine WR.skip ?_
    refine WR.seq ?_
    refine WR.region rfl ?_
    refine S.moveT rfl ?_
    refine S.moveT rfl ?_
    first
      | refine S.buildRow (vs := [.int _ _, .int _ _]) hS2003 Try.underlying42 ti2 rfl rfl rfl rfl rfl rfl rfl ?_
      | refine S.buildRow hS2003 Try.underlying42 ti2 rfl rfl rfl rfl rfl rfl rfl ?_
    intro b83 w83 hS83; clear hS2003
    obtain ⟨R83, hR83, hro83, hSf83⟩ := hS83.keepRow (enc := encI .i64) (n := 1) [y, z] rfl (fun _ _ => rfl)
    replace hro56 := hro56.mono hR83
    replace hro61 := hro61.mono hR83
    refine S.call ent23 rfl (w_sum hSf83 (by exact hro83) (by intro u hu; simp at hu; rcases hu with rfl | rfl <;> assumption) (by simp)) rfl ?_
    rintro _ w84 ⟨rfl, hS84⟩
    clear hSf83
    refine S.call ent11 rfl (w_long hS84 (by exact w_fits _) (by exact (w_range _).2)) rfl ?_
    rintro _ w85 ⟨x85, rfl, hx85, hy85, hS85⟩
    clear hS84
    refine S.moveT rfl ?_
    refine S.extract rfl rfl rfl ?_
    refine S.extract rfl rfl rfl ?_
    refine S.assignT rfl ?_
    refine S.assignT rfl ?_
    refine WS.done ?_
    refine WR.seq ?_
    refine WR.seq ?_
    refine WR.region rfl ?_
    refine S.moveT rfl ?_
    refine S.notD rfl rfl ?_
    refine WS.done ?_
    refine WR.condD rfl (fun c89 => ?_) (fun c89 => ?_)
    ·
      skip
      refine WR.seq ?_
      refine WR.region rfl ?_
      refine S.assignC rfl ?_
      refine WS.done ?_
      refine WR.ret (ret1 rfl rfl ?_)
      first | exact ⟨rfl, hS85.drop.drop.drop.drop.drop.weak (hR56.trans (hR61.trans hR83))⟩ | exact ⟨rfl, hS85.drop.drop.drop.drop.drop.weak (hR56.trans hR61)⟩ | exact ⟨rfl, hS85.drop.drop.drop.drop.drop⟩
    ·
      skip
      refine WR.skip ?_
      refine WR.seq ?_
      refine WR.region rfl ?_
      refine S.moveT rfl ?_
      refine S.moveT rfl ?_
      refine S.call ent22 rfl (w_times hS85 (by exact hx) (by exact hy)) rfl ?_
      rintro _ w93 ⟨rfl, hS93⟩
      clear hS85
      refine S.moveT rfl ?_
      refine S.moveT rfl ?_
      refine S.call ent22 rfl (w_times hS93 (by exact hx) (by exact hz)) rfl ?_
      rintro _ w96 ⟨rfl, hS96⟩
      clear hS93
      refine S.call ent9 rfl (w_add hS96 (by exact w_fits _) (by exact (w_range _).2) (by exact w_fits _) (by exact (w_range _).2)) rfl ?_
      rintro _ w97 ⟨h97, l97, e97, rfl, hW97, hS97⟩
      clear hS96
      have hxy := times_sum hx hy hz (Decidable.not_not.1 c89) (hx85 (Decidable.not_not.1 c89))
      refine S.moveT rfl ?_
      refine S.extract rfl rfl rfl ?_
      refine S.extract rfl rfl rfl ?_
      refine S.alloc hS97 ti24 rfl rfl ?_
      intro b19 w19 hS19; clear hS97
      refine S.storeB (i := 0) hS19 rfl ti24 rfl rfl rfl rfl rfl rfl rfl rfl ?_
      intro w2004 hS2004; clear hS19
      refine S.assignT rfl ?_
      refine WS.done ?_
      refine WR.seq ?_
      have hxv : fits x85 := by rw [hx85 (Decidable.not_not.1 c89)]; exact Decidable.not_not.1 c89
      refine WR.regionQ mixed hS2004 (by kernel_rfl) rfl ?_
      refine Q.moveT rfl ?_
      refine Q.neq rfl rfl rfl ?_
      refine Q.moveT rfl ?_
      refine Q.splitD (d := 102) rfl (fun c102 => ?_) (fun c102 => ?_)
      ·
        skip
        refine Q.off rfl ?_
        refine Q.off rfl ?_
        refine Q.off rfl ?_
        refine Q.off rfl ?_
        refine Q.off rfl ?_
        refine Q.pickTC rfl rfl ?_
        refine Q.assignT rfl ?_
        refine WQ.done ?_
        intro w5005 hS5005
        clear hS2004
        refine WR.ret (ret1 rfl rfl ?_)
        first | exact ⟨rfl, hS5005.drop.drop.drop.drop.drop.drop.weak (hR56.trans (hR61.trans hR83))⟩ | exact ⟨rfl, hS5005.drop.drop.drop.drop.drop.drop.weak (hR56.trans hR61)⟩ | exact ⟨rfl, hS5005.drop.drop.drop.drop.drop.drop⟩
      ·
        skip
        refine Q.loadBA (i := 0) rfl Try.underlying24 rfl ti24 rfl rfl rfl rfl ?_
        refine Q.moveT rfl ?_
        refine Q.moveT rfl ?_
        refine Q.call ent22 rfl (fun w hQ => w_times hQ (by exact hx) (by exact hxv)) rfl ?_
        refine Q.eqlS rfl rfl (by kernel_rfl) (Eq1.struct Try.underlying24 (by kernel_rfl) (EqF.cons (by decide) (Part1.one Try.underlying2 rfl rfl) (Part1.one Try.underlying2 rfl rfl) (Eq1.int Try.underlying2) (EqF.one (by decide) (Part1.one Try.underlying22 rfl rfl) (Part1.one Try.underlying22 rfl rfl) (Eq1.int Try.underlying22)))) rfl ?_
        refine Q.isTD (d := 107) rfl (by rcases hW97 with ⟨_, k1, k2, _⟩ | ⟨_, _, _, k3⟩; exact ⟨k1.trans (by rw [hxy]), k2.trans (by rw [hxy])⟩; omega) ?_
        refine Q.pickF rfl rfl ?_
        refine Q.assignT rfl ?_
        refine WQ.done ?_
        intro w5006 hS5006
        clear hS2004
        refine WR.ret (ret1 rfl rfl ?_)
        first | exact ⟨rfl, hS5006.drop.drop.drop.drop.drop.drop.weak (hR56.trans (hR61.trans hR83))⟩ | exact ⟨rfl, hS5006.drop.drop.drop.drop.drop.drop.weak (hR56.trans hR61)⟩ | exact ⟨rfl, hS5006.drop.drop.drop.drop.drop.drop⟩
  ·
    skip
    refine WR.skip ?_
    refine WR.seq ?_
    refine WR.region rfl ?_
    refine S.moveT rfl ?_
    refine S.moveT rfl ?_
    first
      | refine S.buildRow (vs := [.int _ _, .int _ _]) hS62 Try.underlying42 ti2 rfl rfl rfl rfl rfl rfl rfl ?_
      | refine S.buildRow hS62 Try.underlying42 ti2 rfl rfl rfl rfl rfl rfl rfl ?_
    intro b83 w83 hS83; clear hS62
    obtain ⟨R83, hR83, hro83, hSf83⟩ := hS83.keepRow (enc := encI .i64) (n := 1) [y, z] rfl (fun _ _ => rfl)
    replace hro56 := hro56.mono hR83
    replace hro61 := hro61.mono hR83
    refine S.call ent23 rfl (w_sum hSf83 (by exact hro83) (by intro u hu; simp at hu; rcases hu with rfl | rfl <;> assumption) (by simp)) rfl ?_
    rintro _ w84 ⟨rfl, hS84⟩
    clear hSf83
    refine S.call ent11 rfl (w_long hS84 (by exact w_fits _) (by exact (w_range _).2)) rfl ?_
    rintro _ w85 ⟨x85, rfl, hx85, hy85, hS85⟩
    clear hS84
    refine S.moveT rfl ?_
    refine S.extract rfl rfl rfl ?_
    refine S.extract rfl rfl rfl ?_
    refine S.assignT rfl ?_
    refine S.assignT rfl ?_
    refine WS.done ?_
    refine WR.seq ?_
    refine WR.seq ?_
    refine WR.region rfl ?_
    refine S.moveT rfl ?_
    refine S.notD rfl rfl ?_
    refine WS.done ?_
    refine WR.condD rfl (fun c89 => ?_) (fun c89 => ?_)
    ·
      skip
      refine WR.seq ?_
      refine WR.region rfl ?_
      refine S.assignC rfl ?_
      refine WS.done ?_
      refine WR.ret (ret1 rfl rfl ?_)
      first | exact ⟨rfl, hS85.drop.drop.drop.drop.weak (hR56.trans (hR61.trans hR83))⟩ | exact ⟨rfl, hS85.drop.drop.drop.drop.weak (hR56.trans hR61)⟩ | exact ⟨rfl, hS85.drop.drop.drop.drop⟩
    ·
      skip
      refine WR.skip ?_
      refine WR.seq ?_
      refine WR.region rfl ?_
      refine S.moveT rfl ?_
      refine S.moveT rfl ?_
      refine S.call ent22 rfl (w_times hS85 (by exact hx) (by exact hy)) rfl ?_
      rintro _ w93 ⟨rfl, hS93⟩
      clear hS85
      refine S.moveT rfl ?_
      refine S.moveT rfl ?_
      refine S.call ent22 rfl (w_times hS93 (by exact hx) (by exact hz)) rfl ?_
      rintro _ w96 ⟨rfl, hS96⟩
      clear hS93
      refine S.call ent9 rfl (w_add hS96 (by exact w_fits _) (by exact (w_range _).2) (by exact w_fits _) (by exact (w_range _).2)) rfl ?_
      rintro _ w97 ⟨h97, l97, e97, rfl, hW97, hS97⟩
      clear hS96
      have hxy := times_sum hx hy hz (Decidable.not_not.1 c89) (hx85 (Decidable.not_not.1 c89))
      refine S.moveT rfl ?_
      refine S.extract rfl rfl rfl ?_
      refine S.extract rfl rfl rfl ?_
      refine S.alloc hS97 ti24 rfl rfl ?_
      intro b19 w19 hS19; clear hS97
      refine S.storeB (i := 0) hS19 rfl ti24 rfl rfl rfl rfl rfl rfl rfl rfl ?_
      intro w2007 hS2007; clear hS19
      refine S.assignT rfl ?_
      refine WS.done ?_
      refine WR.seq ?_
      have hxv : fits x85 := by rw [hx85 (Decidable.not_not.1 c89)]; exact Decidable.not_not.1 c89
      refine WR.regionQ mixed hS2007 (by kernel_rfl) rfl ?_
      refine Q.moveT rfl ?_
      refine Q.neq rfl rfl rfl ?_
      refine Q.moveT rfl ?_
      refine Q.splitD (d := 102) rfl (fun c102 => ?_) (fun c102 => ?_)
      ·
        skip
        refine Q.off rfl ?_
        refine Q.off rfl ?_
        refine Q.off rfl ?_
        refine Q.off rfl ?_
        refine Q.off rfl ?_
        refine Q.pickTC rfl rfl ?_
        refine Q.assignT rfl ?_
        refine WQ.done ?_
        intro w5008 hS5008
        clear hS2007
        refine WR.ret (ret1 rfl rfl ?_)
        first | exact ⟨rfl, hS5008.drop.drop.drop.drop.drop.weak (hR56.trans (hR61.trans hR83))⟩ | exact ⟨rfl, hS5008.drop.drop.drop.drop.drop.weak (hR56.trans hR61)⟩ | exact ⟨rfl, hS5008.drop.drop.drop.drop.drop⟩
      ·
        skip
        refine Q.loadBA (i := 0) rfl Try.underlying24 rfl ti24 rfl rfl rfl rfl ?_
        refine Q.moveT rfl ?_
        refine Q.moveT rfl ?_
        refine Q.call ent22 rfl (fun w hQ => w_times hQ (by exact hx) (by exact hxv)) rfl ?_
        refine Q.eqlS rfl rfl (by kernel_rfl) (Eq1.struct Try.underlying24 (by kernel_rfl) (EqF.cons (by decide) (Part1.one Try.underlying2 rfl rfl) (Part1.one Try.underlying2 rfl rfl) (Eq1.int Try.underlying2) (EqF.one (by decide) (Part1.one Try.underlying22 rfl rfl) (Part1.one Try.underlying22 rfl rfl) (Eq1.int Try.underlying22)))) rfl ?_
        refine Q.isTD (d := 107) rfl (by rcases hW97 with ⟨_, k1, k2, _⟩ | ⟨_, _, _, k3⟩; exact ⟨k1.trans (by rw [hxy]), k2.trans (by rw [hxy])⟩; omega) ?_
        refine Q.pickF rfl rfl ?_
        refine Q.assignT rfl ?_
        refine WQ.done ?_
        intro w5009 hS5009
        clear hS2007
        refine WR.ret (ret1 rfl rfl ?_)
        first | exact ⟨rfl, hS5009.drop.drop.drop.drop.drop.weak (hR56.trans (hR61.trans hR83))⟩ | exact ⟨rfl, hS5009.drop.drop.drop.drop.drop.weak (hR56.trans hR61)⟩ | exact ⟨rfl, hS5009.drop.drop.drop.drop.drop⟩


end Go.Proofs.Ytnfideifgegijaa.B

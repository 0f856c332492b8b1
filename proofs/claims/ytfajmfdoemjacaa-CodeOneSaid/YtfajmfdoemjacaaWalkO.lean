import Derived.Test.YtfajmfdoemjacaaWalkA
namespace Go.Proofs.Ytfajmfdoemjacaa.B
open Go.Proofs Go.RowKit
set_option linter.unusedVariables false
set_option linter.unusedSimpArgs false
theorem rdU_codes (xs : List Int) : (rdU xs 0).2.2 = 0 ∨ (rdU xs 0).2.2 = 10 ∨ (rdU xs 0).2.2 = 15 := by
  by_cases h : (pn 0 xs).2.2 = 0
  · rw [rdU_ok h]; exact pn_codes xs 0
  · rw [rdU_bad h]; exact pn_codes xs 0
theorem one_back {xs : List Int} (hb : ∀ x ∈ xs, 0 ≤ x ∧ x < 256) (h : (rdU xs 0).2.2 = 0) (hl : (rdU xs 0).2.1.length = 0) : ∃ n : Nat, (rdU xs 0).1 = (n : Int) ∧ n < 18446744073709551616 ∧ xs = ub n := by
  have hz : (pn 0 xs).2.2 = 0 := by
    by_cases h2 : (pn 0 xs).2.2 = 0
    · exact h2
    · rw [rdU_bad h2] at h; exact h
  rw [rdU_ok hz] at hl ⊢
  have hu := pn_u64 hb
  obtain ⟨h1, h2, _⟩ := pn_one xs 0 (pn 0 xs).2.1 (pn 0 xs).1 hb (by rw [← hz])
  rw [List.eq_nil_of_length_eq_zero hl, List.append_nil] at h2
  exact ⟨(pn 0 xs).1.toNat, by omega, by omega, h2⟩
set_option maxRecDepth 100000 in
set_option maxHeartbeats 4000000 in
theorem law_CodeOne {w : World} {R : Kn} {L : List HP}  (hS : St w R (L)) {va : Value} {us : List Int} (ha : Ro R (encI .u8) 1 va us) (hb : ∀ x ∈ us, 0 ≤ x ∧ x < 256) (hm : us.length ≤ 140737488355328) :
    Fn Try.prog 5 #[va] w (fun v w' => v = .bool true ∧ St w' R L) := by
  obtain ⟨aa, ca, rfl, hla⟩ := ha.len
  refine Fn.intro (n := 43) Try.func5 rfl rfl rfl ?_
  refine WR.seq ?_
  refine WR.region rfl ?_
  refine S.assignC rfl ?_
  refine WS.done ?_
  refine WR.seq ?_
  refine WR.seq ?_
  refine WR.region rfl ?_
  refine S.call ent7 rfl (l6_alive hS ) rfl ?_
  rintro _ w5 ⟨rfl, hS5⟩
  clear hS
  refine S.not rfl rfl ?_
  refine WS.done ?_
  refine WR.condF rfl ?_
  refine WR.skip ?_
  refine WR.seq ?_
  refine WR.seq ?_
  refine WR.region rfl ?_
  refine S.moveT rfl ?_
  refine S.lenSl Try.underlying26 rfl rfl ?_
  refine S.gtr rfl rfl rfl ?_
  refine WS.done ?_
  refine WR.condD rfl (fun c9 => ?_) (fun c9 => ?_)
  ·
    skip
    refine WR.seq ?_
    refine WR.region rfl ?_
    refine S.assignC rfl ?_
    refine WS.done ?_
    refine WR.ret (ret1 rfl rfl ?_)
    first | exact ⟨rfl, hS5⟩ | exact ⟨rfl, hS5.weak hR11⟩ | exact ⟨rfl, hS5.weak (hR11.trans (hR34.trans hR35))⟩
  ·
    skip
    refine WR.skip ?_
    refine WR.seq ?_
    refine WR.region rfl ?_
    refine S.moveT rfl ?_
    refine S.call ent21 rfl (r_copyBytes hS5 (by exact ha) (by omega)) rfl ?_
    rintro v11 w11 hS11
    clear hS5
    obtain ⟨R11, hR11, hro11, hSf11⟩ := hS11.freeze (fun _ _ => rfl)
    replace ha := ha.mono hR11
    refine S.call ent20 rfl (c_new hSf11 (by exact hro11)) rfl ?_
    rintro _ w12 ⟨b12, rfl, hS12⟩
    clear hSf11
    refine S.assignT rfl ?_
    refine WS.done ?_
    refine WR.seq ?_
    refine WR.seq ?_
    refine WR.region rfl ?_
    refine S.moveT rfl ?_
    refine S.eqlNil Try.underlying39 rfl rfl rfl ?_
    refine WS.done ?_
    refine WR.condF rfl ?_
    refine WR.skip ?_
    refine WR.seq ?_
    refine WR.region rfl ?_
    refine S.moveT rfl ?_
    refine S.call ent23 rfl (c_rUint hS12 (by exact hro11) (by exact hb) (by omega)) rfl ?_
    rintro _ w16 ⟨vs16, rfl, hro16, hS16⟩
    clear hS12
    have hcd := rdU_codes us
    have hsb := @rdU_sub us 0
    refine S.assignT rfl ?_
    refine WS.done ?_
    refine WR.seq ?_
    refine WR.seq ?_
    refine WR.region rfl ?_
    refine S.moveT rfl ?_
    refine S.call ent24 rfl (c_rEnd hS16 (by exact hro16) (by exact (fun x hx => hb x (hsb.1 x hx))) (by omega)) rfl ?_
    rintro _ w18 ⟨rfl, hS18⟩
    clear hS16
    have hE := rdE_cases (rdU us 0).2.1 (rdU us 0).2.2
    refine S.neq rfl rfl rfl ?_
    refine WS.done ?_
    refine WR.condD rfl (fun c19 => ?_) (fun c19 => ?_)
    ·
      skip
      refine WR.seq ?_
      refine WR.region rfl ?_
      refine S.moveT rfl ?_
      refine S.lenSl Try.underlying26 rfl rfl ?_
      refine S.eql rfl rfl rfl ?_
      refine S.moveT rfl ?_
      refine S.splitD (d := 23) rfl (fun c23 => ?_) (fun c23 => ?_)
      ·
        skip
        refine S.off rfl ?_
        refine S.off rfl ?_
        refine S.off rfl ?_
        refine S.pickTC rfl rfl ?_
        refine S.moveT rfl ?_
        refine S.off rfl ?_
        refine S.off rfl ?_
        refine S.off rfl ?_
        refine S.pickTC rfl rfl ?_
        refine S.assignT rfl ?_
        refine WS.done ?_
        refine WR.ret (ret1 rfl rfl ?_)
        first | exact ⟨rfl, hS18⟩ | exact ⟨rfl, hS18.drop.weak hR11⟩ | exact ⟨rfl, hS18.drop.weak (hR11.trans (hR34.trans hR35))⟩
      ·
        skip
        refine S.moveT rfl ?_
        refine S.call ent22 rfl (c_err hS18 ) rfl ?_
        rintro _ w25 ⟨rfl, hS25⟩
        clear hS18
        refine S.eql rfl rfl rfl ?_
        refine S.pickF rfl rfl ?_
        refine S.moveT rfl ?_
        refine S.splitD (d := 28) rfl (fun c28 => ?_) (fun c28 => ?_)
        ·
          skip
          refine S.off rfl ?_
          refine S.off rfl ?_
          refine S.off rfl ?_
          refine S.pickTC rfl rfl ?_
          refine S.assignT rfl ?_
          refine WS.done ?_
          refine WR.ret (ret1 rfl rfl ?_)
          first | exact ⟨rfl, hS25⟩ | exact ⟨rfl, hS25.drop.weak hR11⟩ | exact ⟨rfl, hS25.drop.weak (hR11.trans (hR34.trans hR35))⟩
        ·
          skip
          refine S.moveT rfl ?_
          refine S.call ent22 rfl (c_err hS25 ) rfl ?_
          rintro _ w30 ⟨rfl, hS30⟩
          clear hS25
          refine S.eql rfl rfl rfl ?_
          refine S.isTD (d := 31) rfl (by omega) ?_
          refine S.pickF rfl rfl ?_
          refine S.assignT rfl ?_
          refine WS.done ?_
          refine WR.ret (ret1 rfl rfl ?_)
          first | exact ⟨rfl, hS30⟩ | exact ⟨rfl, hS30.drop.weak hR11⟩ | exact ⟨rfl, hS30.drop.weak (hR11.trans (hR34.trans hR35))⟩
    ·
      skip
      refine WR.skip ?_
      refine WR.seq ?_
      refine WR.region rfl ?_
      have hz : (rdU us 0).2.2 = 0 ∧ (rdU us 0).2.1.length = 0 := by omega
      obtain ⟨n, hn, hnl, hxs⟩ := one_back hb hz.1 hz.2
      have hn10 := ub_len10 hnl
      have hxl := congrArg List.length hxs
      refine S.as (d := 4) rfl (congrArg (Value.int .u64) hn) ?_
      refine S.moveT rfl ?_
      first
        | refine S.buildRow (vs := [.int _ _]) hS18 Try.underlying22 ti28 rfl rfl rfl rfl rfl rfl rfl ?_
        | refine S.buildRow hS18 Try.underlying22 ti28 rfl rfl rfl rfl rfl rfl rfl ?_
      intro b34 w34 hS34; clear hS18
      obtain ⟨R34, hR34, hro34, hSf34⟩ := hS34.keepRow (enc := encI .u64) (n := 1) [(n : Int)] rfl (fun _ _ => rfl)
      replace ha := ha.mono hR34
      replace hro11 := hro11.mono hR34
      replace hro16 := hro16.mono hR34
      refine S.call ent16 rfl (c_uints hSf34 (by exact hro34) (by intro x hx; simp at hx; omega) (by simp)) rfl ?_
      rintro v35 w35 hS35
      clear hSf34
      obtain ⟨R35, hR35, hro35, hSf35⟩ := hS35.freeze (fun _ _ => rfl)
      replace ha := ha.mono hR35
      replace hro11 := hro11.mono hR35
      replace hro16 := hro16.mono hR35
      replace hro34 := hro34.mono hR35
      refine S.moveT rfl ?_
      refine S.call ent15 rfl (r_sameBytes hSf35 (by exact hro35) (by exact ha) (by rw [uB_one]; omega)) rfl ?_
      rintro _ w37 ⟨rfl, hS37⟩
      clear hSf35
      refine S.isTD (d := 37) rfl (by rw [uB_one]; exact hxs.symm) ?_
      refine S.moveT rfl ?_
      refine S.moveT rfl ?_
      refine S.lenSl Try.underlying26 rfl rfl ?_
      refine S.leq rfl rfl rfl ?_
      refine S.isTD (d := 41) rfl (by omega) ?_
      refine S.pickT rfl rfl ?_
      refine S.assignT rfl ?_
      refine WS.done ?_
      refine WR.ret (ret1 rfl rfl ?_)
      first | exact ⟨rfl, hS37⟩ | exact ⟨rfl, hS37.drop.weak hR11⟩ | exact ⟨rfl, hS37.drop.weak (hR11.trans (hR34.trans hR35))⟩


end Go.Proofs.Ytfajmfdoemjacaa.B

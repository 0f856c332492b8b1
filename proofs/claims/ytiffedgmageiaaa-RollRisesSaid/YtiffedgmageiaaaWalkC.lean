import Derived.Test.YtiffedgmageiaaaTypes
namespace Go.Proofs.Ytiffedgmageiaaa.B
open Go.Proofs Go.RowKit
set_option linter.unusedVariables false
set_option linter.unusedSimpArgs false
set_option maxRecDepth 100000 in
set_option maxHeartbeats 4000000 in
theorem s_wrong {w : World} {R : Kn} {L : List HP}  (hS : St w R (L)) {a b t : Int} :
    Fn Try.prog 21 #[.int .i64 a, .int .i64 b, .int .i64 t] w (fun v w' => v = .bool (decide (badE a b t)) ∧ St w' R L) := by
  refine Fn.intro (n := 29) Try.func21 rfl rfl rfl ?_
  refine WR.seq ?_
  refine WR.region rfl ?_
  refine S.assignC rfl ?_
  refine WS.done ?_
  refine WR.seq ?_
  refine WR.region rfl ?_
  refine S.moveT rfl ?_
  refine S.lss rfl rfl rfl ?_
  refine S.moveT rfl ?_
  refine S.splitD (d := 9) rfl (fun c9 => ?_) (fun c9 => ?_)
  ·
    skip
    refine S.off rfl ?_
    refine S.off rfl ?_
    refine S.pickTC rfl rfl ?_
    refine S.moveT rfl ?_
    refine S.off rfl ?_
    refine S.off rfl ?_
    refine S.pickTC rfl rfl ?_
    refine S.moveT rfl ?_
    refine S.off rfl ?_
    refine S.off rfl ?_
    refine S.pickTC rfl rfl ?_
    refine S.moveT rfl ?_
    refine S.off rfl ?_
    refine S.off rfl ?_
    refine S.pickTC rfl rfl ?_
    refine S.moveT rfl ?_
    refine S.off rfl ?_
    refine S.off rfl ?_
    refine S.pickTC rfl rfl ?_
    refine S.assignT rfl ?_
    refine WS.done ?_
    refine WR.ret (ret1 rfl rfl ?_)
    exact ⟨congrArg Value.bool (by first | exact decide_eq_decide.2 (by unfold badE; omega) | exact (decide_eq_true (by unfold badE; omega)).symm), hS⟩
  ·
    skip
    refine S.moveT rfl ?_
    refine S.gtr rfl rfl rfl ?_
    refine S.pickF rfl rfl ?_
    refine S.moveT rfl ?_
    refine S.splitD (d := 13) rfl (fun c13 => ?_) (fun c13 => ?_)
    ·
      skip
      refine S.off rfl ?_
      refine S.off rfl ?_
      refine S.pickTC rfl rfl ?_
      refine S.moveT rfl ?_
      refine S.off rfl ?_
      refine S.off rfl ?_
      refine S.pickTC rfl rfl ?_
      refine S.moveT rfl ?_
      refine S.off rfl ?_
      refine S.off rfl ?_
      refine S.pickTC rfl rfl ?_
      refine S.moveT rfl ?_
      refine S.off rfl ?_
      refine S.off rfl ?_
      refine S.pickTC rfl rfl ?_
      refine S.assignT rfl ?_
      refine WS.done ?_
      refine WR.ret (ret1 rfl rfl ?_)
      exact ⟨congrArg Value.bool (by first | exact decide_eq_decide.2 (by unfold badE; omega) | exact (decide_eq_true (by unfold badE; omega)).symm), hS⟩
    ·
      skip
      refine S.moveT rfl ?_
      refine S.lss rfl rfl rfl ?_
      refine S.pickF rfl rfl ?_
      refine S.moveT rfl ?_
      refine S.splitD (d := 17) rfl (fun c17 => ?_) (fun c17 => ?_)
      ·
        skip
        refine S.off rfl ?_
        refine S.off rfl ?_
        refine S.pickTC rfl rfl ?_
        refine S.moveT rfl ?_
        refine S.off rfl ?_
        refine S.off rfl ?_
        refine S.pickTC rfl rfl ?_
        refine S.moveT rfl ?_
        refine S.off rfl ?_
        refine S.off rfl ?_
        refine S.pickTC rfl rfl ?_
        refine S.assignT rfl ?_
        refine WS.done ?_
        refine WR.ret (ret1 rfl rfl ?_)
        exact ⟨congrArg Value.bool (by first | exact decide_eq_decide.2 (by unfold badE; omega) | exact (decide_eq_true (by unfold badE; omega)).symm), hS⟩
      ·
        skip
        refine S.moveT rfl ?_
        refine S.gtr rfl rfl rfl ?_
        refine S.pickF rfl rfl ?_
        refine S.moveT rfl ?_
        refine S.splitD (d := 21) rfl (fun c21 => ?_) (fun c21 => ?_)
        ·
          skip
          refine S.off rfl ?_
          refine S.off rfl ?_
          refine S.pickTC rfl rfl ?_
          refine S.moveT rfl ?_
          refine S.off rfl ?_
          refine S.off rfl ?_
          refine S.pickTC rfl rfl ?_
          refine S.assignT rfl ?_
          refine WS.done ?_
          refine WR.ret (ret1 rfl rfl ?_)
          exact ⟨congrArg Value.bool (by first | exact decide_eq_decide.2 (by unfold badE; omega) | exact (decide_eq_true (by unfold badE; omega)).symm), hS⟩
        ·
          skip
          refine S.moveT rfl ?_
          refine S.lss rfl rfl rfl ?_
          refine S.pickF rfl rfl ?_
          refine S.moveT rfl ?_
          refine S.splitD (d := 25) rfl (fun c25 => ?_) (fun c25 => ?_)
          ·
            skip
            refine S.off rfl ?_
            refine S.off rfl ?_
            refine S.pickTC rfl rfl ?_
            refine S.assignT rfl ?_
            refine WS.done ?_
            refine WR.ret (ret1 rfl rfl ?_)
            exact ⟨congrArg Value.bool (by first | exact decide_eq_decide.2 (by unfold badE; omega) | exact (decide_eq_true (by unfold badE; omega)).symm), hS⟩
          ·
            skip
            refine S.moveT rfl ?_
            refine S.gtr rfl rfl rfl ?_
            refine S.pickF rfl rfl ?_
            refine S.assignT rfl ?_
            refine WS.done ?_
            refine WR.ret (ret1 rfl rfl ?_)
            exact ⟨congrArg Value.bool (by first | exact decide_eq_decide.2 (by unfold badE; omega) | exact (decide_eq_true (by unfold badE; omega)).symm), hS⟩

set_option maxRecDepth 100000 in
set_option maxHeartbeats 4000000 in
theorem s_full {w : World} {R : Kn} {L : List HP} {mo : Int} {m : EM} {bs : Nat} (hS : St w R (blk bs (.cells (tabC [.int .i64 mo] e3C (tabR m)) 61 (0, 0)) :: L)) (hI : RI mo m) :
    Fn Try.prog 22 #[.pointer (some ⟨bs, 0, none⟩)] w (fun v w' => v = .bool (decide (mo ≤ (m.length : Int))) ∧ St w' R (blk bs (.cells (tabC [.int .i64 mo] e3C (tabR m)) 61 (0, 0)) :: L)) := by
  have hln := hI.len
  have hmo := hI.mo0
  refine Fn.intro (n := 25) Try.func22 rfl rfl rfl ?_
  refine WR.seq ?_
  refine WR.region rfl ?_
  refine S.assignC rfl ?_
  refine WS.done ?_
  refine WR.seq ?_
  refine WR.region rfl ?_
  refine S.assignC rfl ?_
  refine WS.done ?_
  refine WR.seq ?_
  refine WR.seq ?_
  refine WR.region rfl ?_
  refine S.assignC rfl ?_
  refine WS.done ?_
  refine WR.block ?_
  refine WR.loopE (fun rq mm rr wr => ∃ (i : Nat), mm = 64 - i ∧ (i ≤ 64) ∧ rr 3 = .int .i64 ((below m (i : Int) : Nat) : Int) ∧ rr 4 = .int .i64 (i : Int) ∧ Agr [0] rr rq ∧ St wr R (blk bs (.cells (tabC [.int .i64 mo] e3C (tabR m)) 61 (0, 0)) :: L)) ⟨0, rfl, (by omega), (by exact congrArg (Value.int .i64) (by rw [show ((0 : Nat) : Int) = 0 from rfl, below_zero (fun p hp => (hI.key p hp).1)]; rfl)), rfl, ⟨rfl, trivial⟩, hS⟩ ?_
  rintro mm rr w1001 ⟨i, hm1001, hi, hr1001_3, hr1001_4, hA1001, hS1001⟩
  obtain ⟨rr, rfl⟩ := agrBack hA1001
  clear hA1001
  obtain ⟨rr, rfl⟩ := back2 (r := rr) hr1001_3 hr1001_4
  clear hr1001_3 hr1001_4
  have hbl : below m (i : Int) ≤ m.length := List.length_filter_le ..
  refine WR.seq ?_
  refine WR.seq ?_
  refine WR.region rfl ?_
  refine S.moveT rfl ?_
  refine S.lss rfl rfl rfl ?_
  refine WS.done ?_
  refine WR.condD rfl (fun c6 => ?_) (fun c6 => ?_)
  ·
    skip
    refine WR.skip ?_
    refine WR.seq ?_
    refine WR.block ?_
    refine WR.seq ?_
    refine WR.region rfl ?_
    refine S.moveT rfl ?_
    refine S.moveT rfl ?_
    refine S.nilCheck rfl rfl ?_
    refine S.fieldB Try.underlying61 rfl ti59 rfl rfl rfl rfl ?_
    refine S.ixTab (p := 1) Try.underlying59 ti37 rfl rfl (by omega) rfl ?_
    refine S.fieldB Try.underlying37 rfl ti2 rfl rfl rfl rfl ?_
    first
      | refine S.loadTabF (p := 1) (n := 3) (i := 0) hS1001 rfl rfl (fun _ _ => rfl) Try.underlying2 rfl rfl (getD_tabN (z := zE) (by rw [tabR_len]; omega)) rfl rfl ?_
      | refine S.loadTabF (p := 1) (n := 3) (i := 0) hS1001 rfl rfl (fun _ _ => rfl) Try.underlying2 rfl rfl (getD_tab (z := zE) (by rw [tabR_len]; omega)) rfl rfl ?_
    refine S.as (d := 15) rfl (v' := .int .i64 (oldE m (i : Int)).1) (by rw [tabR_nat (by omega)]; rfl) ?_
    refine S.gtr rfl rfl rfl ?_
    refine WS.done ?_
    refine WR.condD rfl (fun c16 => ?_) (fun c16 => ?_)
    ·
      skip
      refine WR.region rfl ?_
      refine S.moveT rfl ?_
      first
        | refine S.addN rfl rfl rfl (by omega) ?_
        | refine S.add rfl rfl rfl ?_
      refine S.assignT rfl ?_
      refine WS.done ?_
      refine WR.region rfl ?_
      refine S.moveT rfl ?_
      first
        | refine S.addN rfl rfl rfl (by omega) ?_
        | refine S.add rfl rfl rfl ?_
      refine S.assignT rfl ?_
      refine WS.done ?_
      exact ⟨_, (by omega), ⟨i + 1, rfl, (by omega), (by exact congrArg (Value.int .i64) (by rw [show ((i + 1 : Nat) : Int) = (i : Int) + 1 by omega, below_succ hI.rise]; first | (rw [if_pos (hI.pos.1 c16)]; omega) | (rw [if_neg (fun q => c16 (hI.pos.2 q))]; omega))), rfl, ⟨rfl, trivial⟩, hS1001⟩⟩
    ·
      skip
      refine WR.skip ?_
      refine WR.region rfl ?_
      refine S.moveT rfl ?_
      first
        | refine S.addN rfl rfl rfl (by omega) ?_
        | refine S.add rfl rfl rfl ?_
      refine S.assignT rfl ?_
      refine WS.done ?_
      exact ⟨_, (by omega), ⟨i + 1, rfl, (by omega), (by exact congrArg (Value.int .i64) (by rw [show ((i + 1 : Nat) : Int) = (i : Int) + 1 by omega, below_succ hI.rise]; first | (rw [if_pos (hI.pos.1 c16)]; omega) | (rw [if_neg (fun q => c16 (hI.pos.2 q))]; omega))), rfl, ⟨rfl, trivial⟩, hS1001⟩⟩
  ·
    skip
    refine WR.exit ?_
    refine WR.seq ?_
    refine WR.region rfl ?_
    refine S.moveT rfl ?_
    refine S.moveT rfl ?_
    refine S.nilCheck rfl rfl ?_
    refine S.fieldB Try.underlying61 rfl ti3 rfl rfl rfl rfl ?_
    refine S.loadTabP (i := 0) hS1001 rfl Try.underlying3 rfl rfl rfl rfl ?_
    refine S.geq rfl rfl rfl ?_
    refine S.assignT rfl ?_
    refine WS.done ?_
    refine WR.ret (ret1 rfl rfl ?_)
    obtain rfl : i = 64 := by omega
    rw [show below m ((64 : Nat) : Int) = m.length from below_all (fun p hp => (hI.key p hp).2)]
    exact ⟨rfl, hS1001⟩

set_option maxRecDepth 100000 in
set_option maxHeartbeats 4000000 in
theorem s_of {w : World} {R : Kn} {L : List HP} {mo : Int} {m : EM} {bs : Nat} (hS : St w R (blk bs (.cells (tabC [.int .i64 mo] e3C (tabR m)) 61 (0, 0)) :: L)) {a : Int} (hI : RI mo m) :
    Fn Try.prog 16 #[.pointer (some ⟨bs, 0, none⟩), .int .i64 a] w (fun v w' => v = entV (oldE m a) ∧ St w' R (blk bs (.cells (tabC [.int .i64 mo] e3C (tabR m)) 61 (0, 0)) :: L)) := by
  refine Fn.intro (n := 18) Try.func16 rfl rfl rfl ?_
  refine WR.seq ?_
  refine WR.region rfl ?_
  refine S.alloc hS ti37 rfl rfl ?_
  intro b4 w4 hS4; clear hS
  refine WS.done ?_
  refine WR.seq ?_
  refine WR.seq ?_
  refine WR.region rfl ?_
  refine S.moveT rfl ?_
  refine S.lss rfl rfl rfl ?_
  refine S.moveT rfl ?_
  refine S.splitD (d := 7) rfl (fun c7 => ?_) (fun c7 => ?_)
  ·
    skip
    refine S.off rfl ?_
    refine S.off rfl ?_
    refine S.pickTC rfl rfl ?_
    refine WS.done ?_
    refine WR.condT rfl ?_
    refine WR.seq ?_
    refine WR.region rfl ?_
    refine S.buildZero ti37 rfl (by kernel_rfl) rfl ?_
    refine S.storeB (i := 0) hS4 rfl ti37 rfl rfl rfl rfl rfl rfl rfl rfl ?_
    intro w2001 hS2001; clear hS4
    refine WS.done ?_
    refine WR.ret (retC rfl rfl (run_loadBA (i := 0) hS2001 rfl Try.underlying37 rfl ti37 rfl rfl) ?_)
    rw [(hI.out (by omega)).1]
    exact ⟨rfl, (hS2001.drop)⟩
  ·
    skip
    refine S.moveT rfl ?_
    refine S.gtr rfl rfl rfl ?_
    refine S.pickF rfl rfl ?_
    refine WS.done ?_
    refine WR.condD rfl (fun c10 => ?_) (fun c10 => ?_)
    ·
      skip
      refine WR.seq ?_
      refine WR.region rfl ?_
      refine S.buildZero ti37 rfl (by kernel_rfl) rfl ?_
      refine S.storeB (i := 0) hS4 rfl ti37 rfl rfl rfl rfl rfl rfl rfl rfl ?_
      intro w2002 hS2002; clear hS4
      refine WS.done ?_
      refine WR.ret (retC rfl rfl (run_loadBA (i := 0) hS2002 rfl Try.underlying37 rfl ti37 rfl rfl) ?_)
      rw [(hI.out (by omega)).1]
      exact ⟨rfl, (hS2002.drop)⟩
    ·
      skip
      refine WR.skip ?_
      refine WR.seq ?_
      refine WR.region rfl ?_
      refine S.moveT rfl ?_
      refine S.moveT rfl ?_
      refine S.nilCheck rfl rfl ?_
      refine S.fieldB Try.underlying61 rfl ti59 rfl rfl rfl rfl ?_
      refine S.ixTab (p := 1) Try.underlying59 ti37 rfl rfl (by omega) rfl ?_
      first
        | refine S.loadTabA (p := 1) (n := 3) (i := 1) hS4 rfl rfl (fun _ _ => rfl) Try.underlying37 rfl ti37 rfl (getD_tabN (z := zE) (by rw [tabR_len]; omega)) rfl ?_
        | refine S.loadTabA (p := 1) (n := 3) (i := 1) hS4 rfl rfl (fun _ _ => rfl) Try.underlying37 rfl ti37 rfl (getD_tab (z := zE) (by rw [tabR_len]; omega)) rfl ?_
      refine S.as (d := 17) rfl (v' := entV (oldE m a)) (by rw [tabR_get (by omega)]; rfl) ?_
      refine S.storeB (i := 0) hS4 rfl ti37 rfl rfl rfl rfl rfl rfl rfl rfl ?_
      intro w2003 hS2003; clear hS4
      refine WS.done ?_
      refine WR.ret (retC rfl rfl (run_loadBA (i := 0) hS2003 rfl Try.underlying37 rfl ti37 rfl rfl) ?_)
      exact ⟨rfl, (hS2003.drop)⟩

set_option maxRecDepth 100000 in
set_option maxHeartbeats 4000000 in
theorem s_grant {w : World} {R : Kn} {L : List HP} {mo : Int} {m : EM} {bs : Nat} (hS : St w R (blk bs (.cells (tabC [.int .i64 mo] e3C (tabR m)) 61 (0, 0)) :: L)) {a b t : Int} (hI : RI mo m) :
    Fn Try.prog 10 #[.pointer (some ⟨bs, 0, none⟩), .int .i64 a, .int .i64 b, .int .i64 t] w (fun v w' => v = .tuple #[entV (grant mo m a b t).1.1, .bool (grant mo m a b t).1.2.1, .int .i64 (grant mo m a b t).1.2.2] ∧ St w' R (blk bs (.cells (tabC [.int .i64 mo] e3C (tabR (grant mo m a b t).2)) 61 (0, 0)) :: L)) := by
  have hof := hI.old_fits (a := a)
  have hln := hI.len
  have hmo := hI.mo0
  refine Fn.intro (n := 76) Try.func10 rfl rfl rfl ?_
  refine WR.seq ?_
  refine WR.region rfl ?_
  refine S.alloc hS ti37 rfl rfl ?_
  intro b8 w8 hS8; clear hS
  refine S.assignC rfl ?_
  refine S.assignC rfl ?_
  refine WS.done ?_
  refine WR.seq ?_
  refine WR.seq ?_
  refine WR.region rfl ?_
  refine S.moveT rfl ?_
  refine S.moveT rfl ?_
  refine S.moveT rfl ?_
  refine S.call ent21 rfl (s_wrong hS8 ) rfl ?_
  rintro _ w15 ⟨rfl, hS15⟩
  clear hS8
  refine WS.done ?_
  refine WR.condD rfl (fun c15 => ?_) (fun c15 => ?_)
  ·
    skip
    refine WR.seq ?_
    refine WR.region rfl ?_
    refine S.buildZero ti37 rfl (by kernel_rfl) rfl ?_
    refine S.storeB (i := 0) hS15 rfl ti37 rfl rfl rfl rfl rfl rfl rfl rfl ?_
    intro w2001 hS2001; clear hS15
    refine S.assignC rfl ?_
    refine S.assignC rfl ?_
    refine WS.done ?_
    refine WR.ret (retC2 rfl rfl (run_loadBA (i := 0) hS2001 rfl Try.underlying37 rfl ti37 rfl rfl) rfl rfl ?_)
    rw [grant_chk (by rw [chk_bad c15]; decide), chk_bad c15]
    exact ⟨rfl, (hS2001.drop)⟩
  ·
    skip
    refine WR.skip ?_
    refine WR.seq ?_
    have hnb := c15
    unfold badE at hnb
    refine WR.region rfl ?_
    refine S.moveT rfl ?_
    refine S.moveT rfl ?_
    refine S.nilCheck rfl rfl ?_
    refine S.fieldB Try.underlying61 rfl ti59 rfl rfl rfl rfl ?_
    refine S.ixTab (p := 1) Try.underlying59 ti37 rfl rfl (by omega) rfl ?_
    first
      | refine S.loadTabA (p := 1) (n := 3) (i := 1) hS15 rfl rfl (fun _ _ => rfl) Try.underlying37 rfl ti37 rfl (getD_tabN (z := zE) (by rw [tabR_len]; omega)) rfl ?_
      | refine S.loadTabA (p := 1) (n := 3) (i := 1) hS15 rfl rfl (fun _ _ => rfl) Try.underlying37 rfl ti37 rfl (getD_tab (z := zE) (by rw [tabR_len]; omega)) rfl ?_
    refine S.as (d := 22) rfl (v' := entV (oldE m a)) (by rw [tabR_get (by omega)]; rfl) ?_
    refine S.alloc hS15 ti37 rfl rfl ?_
    intro b11 w11 hS11; clear hS15
    refine S.storeB (i := 0) hS11 rfl ti37 rfl rfl rfl rfl rfl rfl rfl rfl ?_
    intro w2002 hS2002; clear hS11
    refine WS.done ?_
    refine WR.seq ?_
    refine WR.block ?_
    refine WR.seq ?_
    refine WR.region rfl ?_
    refine S.fieldB Try.underlying37 rfl ti2 rfl rfl rfl rfl ?_
    refine S.loadB (i := 0) hS2002 rfl Try.underlying2 rfl rfl rfl rfl ?_
    refine S.gtr rfl rfl rfl ?_
    refine S.moveT rfl ?_
    refine S.splitD (d := 27) rfl (fun c27 => ?_) (fun c27 => ?_)
    ·
      skip
      refine S.fieldB Try.underlying37 rfl ti2 rfl rfl rfl rfl ?_
      refine S.loadB (i := 0) hS2002 rfl Try.underlying2 rfl rfl rfl rfl ?_
      refine S.moveT rfl ?_
      refine S.eql rfl rfl rfl ?_
      refine S.pickT rfl rfl ?_
      refine S.assignT rfl ?_
      refine WS.done ?_
      refine WR.condD rfl (fun c23 => ?_) (fun c23 => ?_)
      ·
        skip
        refine WR.seq ?_
        refine WR.region rfl ?_
        refine S.loadBA (i := 0) hS2002 rfl Try.underlying37 rfl ti37 rfl rfl rfl rfl ?_
        refine S.storeB (i := 1) hS2002 rfl ti37 rfl rfl rfl rfl rfl rfl rfl rfl ?_
        intro w2003 hS2003; clear hS2002
        refine S.assignC rfl ?_
        refine S.assignC rfl ?_
        refine WS.done ?_
        refine WR.ret (retC2 rfl rfl (run_loadBA (i := 1) hS2003 rfl Try.underlying37 rfl ti37 rfl rfl) rfl rfl ?_)
        rw [grant_same (chk_ok c15 (.inl (hI.pos.1 c27))) c23]
        exact ⟨rfl, (hS2003.drop.drop)⟩
      ·
        skip
        refine WR.seq ?_
        refine WR.region rfl ?_
        refine S.fieldB Try.underlying37 rfl ti2 rfl rfl rfl rfl ?_
        refine S.loadB (i := 0) hS2002 rfl Try.underlying2 rfl rfl rfl rfl ?_
        refine S.gtr rfl rfl rfl ?_
        refine S.isTD (d := 37) rfl (by assumption) ?_
        refine S.moveT rfl ?_
        refine S.fieldB Try.underlying37 rfl ti2 rfl rfl rfl rfl ?_
        refine S.loadB (i := 0) hS2002 rfl Try.underlying2 rfl rfl rfl rfl ?_
        refine S.moveT rfl ?_
        refine S.gtr rfl rfl rfl ?_
        refine S.pickT rfl rfl ?_
        refine S.assignT rfl ?_
        refine WS.done ?_
        refine WR.condD rfl (fun c34 => ?_) (fun c34 => ?_)
        ·
          skip
          refine WR.seq ?_
          refine WR.region rfl ?_
          refine S.buildZero ti37 rfl (by kernel_rfl) rfl ?_
          refine S.storeB (i := 1) hS2002 rfl ti37 rfl rfl rfl rfl rfl rfl rfl rfl ?_
          intro w2004 hS2004; clear hS2002
          refine S.assignC rfl ?_
          refine S.assignC rfl ?_
          refine WS.done ?_
          refine WR.ret (retC2 rfl rfl (run_loadBA (i := 1) hS2004 rfl Try.underlying37 rfl ti37 rfl rfl) rfl rfl ?_)
          rw [grant_old (chk_ok c15 (.inl (hI.pos.1 c27))) c34]
          exact ⟨rfl, (hS2004.drop.drop)⟩
        ·
          skip
          refine WR.seq ?_
          refine WR.region rfl ?_
          refine S.fieldB Try.underlying37 rfl ti2 rfl rfl rfl rfl ?_
          refine S.loadB (i := 0) hS2002 rfl Try.underlying2 rfl rfl rfl rfl ?_
          refine S.eql rfl rfl rfl ?_
          refine S.assignT rfl ?_
          refine WS.done ?_
          refine WR.condD rfl (fun c45 => ?_) (fun c45 => ?_)
          ·
            skip
            refine WR.seq ?_
            refine WR.region rfl ?_
            refine S.buildZero ti37 rfl (by kernel_rfl) rfl ?_
            refine S.storeB (i := 1) hS2002 rfl ti37 rfl rfl rfl rfl rfl rfl rfl rfl ?_
            intro w2005 hS2005; clear hS2002
            refine S.assignC rfl ?_
            refine S.assignC rfl ?_
            refine WS.done ?_
            refine WR.ret (retC2 rfl rfl (run_loadBA (i := 1) hS2005 rfl Try.underlying37 rfl ti37 rfl rfl) rfl rfl ?_)
            rw [grant_long (chk_ok c15 (.inl (hI.pos.1 c27))) c23 c34 c45]
            exact ⟨rfl, (hS2005.drop.drop)⟩
          ·
            skip
            refine WR.seq ?_
            refine WR.region rfl ?_
            refine S.fieldB Try.underlying37 rfl ti2 rfl rfl rfl rfl ?_
            refine S.loadB (i := 0) hS2002 rfl Try.underlying2 rfl rfl rfl rfl ?_
            refine S.eql rfl rfl rfl ?_
            refine S.isFD (d := 53) rfl (by omega) ?_
            refine S.moveT rfl ?_
            refine S.off rfl ?_
            refine S.off rfl ?_
            refine S.pickFC rfl rfl ?_
            refine S.assignT rfl ?_
            refine WS.done ?_
            refine WR.condF rfl ?_
            refine WR.skip ?_
            refine WR.seq ?_
            refine WR.regionW (fun j => Nat.beq j 11) 12 rfl mixed hS2002 ?_
            intro w6006 hS6006; clear hS2002; have hC := hS6006
            refine WA.take (fuel := 11) 0 rfl (by kernel_rfl) (by kernel_rfl) (by kernel_rfl) (by kernel_rfl) rfl rfl hC ?_
            refine Q.moveT rfl ?_
            refine WQ.done ?_
            refine WA.take (fuel := 10) 1 rfl (by kernel_rfl) (by kernel_rfl) (by kernel_rfl) (by kernel_rfl) rfl rfl hC ?_
            refine Q.moveT rfl ?_
            refine WQ.done ?_
            refine WA.take (fuel := 9) 2 rfl (by kernel_rfl) (by kernel_rfl) (by kernel_rfl) (by kernel_rfl) rfl rfl hC ?_
            refine Q.fieldB Try.underlying37 rfl ti2 rfl rfl rfl rfl ?_
            refine WQ.done ?_
            refine WA.take (fuel := 8) 3 rfl (by kernel_rfl) (by kernel_rfl) (by kernel_rfl) (by kernel_rfl) rfl rfl hC ?_
            refine Q.loadB (i := 0) rfl Try.underlying2 rfl rfl rfl rfl ?_
            refine WQ.done ?_
            refine WA.take (fuel := 7) 4 rfl (by kernel_rfl) (by kernel_rfl) (by kernel_rfl) (by kernel_rfl) rfl rfl hC ?_
            first
              | refine Q.addN rfl rfl rfl (by omega) ?_
              | refine Q.add rfl rfl rfl ?_
            refine WQ.done ?_
            refine WA.take (fuel := 6) 5 rfl (by kernel_rfl) (by kernel_rfl) (by kernel_rfl) (by kernel_rfl) rfl rfl hC ?_
            refine Q.moveT rfl ?_
            refine WQ.done ?_
            refine WA.take (fuel := 5) 6 rfl (by kernel_rfl) (by kernel_rfl) (by kernel_rfl) (by kernel_rfl) rfl rfl hC ?_
            refine Q.moveT rfl ?_
            refine WQ.done ?_
            refine WA.takeP (fuel := 4) 8 rfl (by kernel_rfl) (by kernel_rfl) (by kernel_rfl) rfl rfl ?_
            refine Q.nilCheck rfl rfl ?_
            refine WQ.done ?_
            refine WA.takeP (fuel := 3) 9 rfl (by kernel_rfl) (by kernel_rfl) (by kernel_rfl) rfl rfl ?_
            refine Q.fieldB Try.underlying61 rfl ti59 rfl rfl rfl rfl ?_
            refine WQ.done ?_
            refine WA.one (fuel := 2) 7 rfl (by kernel_rfl) rfl ?_
            refine S.buildStruct [.int _ _, .int _ _, .int _ _] [(0, 1), (1, 1), (2, 1)] Try.underlying37 ti37 rfl (by kernel_rfl) rfl rfl rfl rfl rfl rfl ?_
            refine WS.done ⟨fun _ => hS6006, ?_⟩
            replace hC := hS6006
            refine WA.take (fuel := 1) 10 rfl (by kernel_rfl) (by kernel_rfl) (by kernel_rfl) (by kernel_rfl) rfl rfl hC ?_
            refine Q.ixTab (p := 1) Try.underlying59 ti37 rfl rfl (by omega) rfl ?_
            refine WQ.done ?_
            refine WA.one (fuel := 0) 11 rfl (by kernel_rfl) rfl ?_
            refine S.storeTabA (p := 1) (n := 3) (i := 2) (newE m a b t) hS6006 rfl rfl (fun _ _ => rfl) ti37 rfl (by rw [tabR_len]; omega) rfl rfl rfl rfl rfl ?_
            intro w2007 hS2007; clear hS6006
            refine WS.done ⟨fun h => absurd h (by decide), ?_⟩
            refine WA.done (by kernel_rfl) ?_
            clear hC
            refine WR.seq ?_
            refine WR.region rfl ?_
            rw [tabR_put (by omega)] at hS2007
            refine S.moveT rfl ?_
            refine S.moveT rfl ?_
            refine S.nilCheck rfl rfl ?_
            refine S.fieldB Try.underlying61 rfl ti59 rfl rfl rfl rfl ?_
            refine S.ixTab (p := 1) Try.underlying59 ti37 rfl rfl (by omega) rfl ?_
            first
              | refine S.loadTabA (p := 1) (n := 3) (i := 2) hS2007 rfl rfl (fun _ _ => rfl) Try.underlying37 rfl ti37 rfl (getD_tabN (z := zE) (by rw [tabR_len]; omega)) rfl ?_
              | refine S.loadTabA (p := 1) (n := 3) (i := 2) hS2007 rfl rfl (fun _ _ => rfl) Try.underlying37 rfl ti37 rfl (getD_tab (z := zE) (by rw [tabR_len]; omega)) rfl ?_
            refine S.as (d := 75) rfl (v' := entV (newE m a b t)) (by rw [tabR_get (m := aput m a (newE m a b t)) (by omega), oldE_put]; rfl) ?_
            refine S.storeB (i := 1) hS2007 rfl ti37 rfl rfl rfl rfl rfl rfl rfl rfl ?_
            intro w2008 hS2008; clear hS2007
            refine S.assignC rfl ?_
            refine S.assignC rfl ?_
            refine WS.done ?_
            refine WR.ret (retC2 rfl rfl (run_loadBA (i := 1) hS2008 rfl Try.underlying37 rfl ti37 rfl rfl) rfl rfl ?_)
            rw [grant_new (chk_ok c15 (.inl (hI.pos.1 c27))) c23 c34 c45]
            exact ⟨rfl, (hS2008.drop.drop)⟩
    ·
      skip
      refine S.off rfl ?_
      refine S.off rfl ?_
      refine S.off rfl ?_
      refine S.off rfl ?_
      refine S.pickFC rfl rfl ?_
      refine S.assignT rfl ?_
      refine WS.done ?_
      refine WR.condF rfl ?_
      refine WR.seq ?_
      refine WR.region rfl ?_
      refine S.fieldB Try.underlying37 rfl ti2 rfl rfl rfl rfl ?_
      refine S.loadB (i := 0) hS2002 rfl Try.underlying2 rfl rfl rfl rfl ?_
      refine S.gtr rfl rfl rfl ?_
      refine S.isFD (d := 37) rfl (by assumption) ?_
      refine S.moveT rfl ?_
      refine S.off rfl ?_
      refine S.off rfl ?_
      refine S.off rfl ?_
      refine S.off rfl ?_
      refine S.pickFC rfl rfl ?_
      refine S.assignT rfl ?_
      refine WS.done ?_
      refine WR.condF rfl ?_
      refine WR.seq ?_
      refine WR.region rfl ?_
      refine S.fieldB Try.underlying37 rfl ti2 rfl rfl rfl rfl ?_
      refine S.loadB (i := 0) hS2002 rfl Try.underlying2 rfl rfl rfl rfl ?_
      refine S.eql rfl rfl rfl ?_
      refine S.isFD (d := 48) rfl (by omega) ?_
      refine S.assignT rfl ?_
      refine WS.done ?_
      refine WR.condF rfl ?_
      refine WR.seq ?_
      refine WR.region rfl ?_
      refine S.fieldB Try.underlying37 rfl ti2 rfl rfl rfl rfl ?_
      refine S.loadB (i := 0) hS2002 rfl Try.underlying2 rfl rfl rfl rfl ?_
      refine S.eql rfl rfl rfl ?_
      refine S.isTD (d := 53) rfl (by omega) ?_
      refine S.moveT rfl ?_
      refine S.moveT rfl ?_
      refine S.call ent22 rfl (s_full (((hS2002.at_ (i := 1) rfl).at_ (i := 1) rfl).at_ (i := 2) rfl) (by assumption)) rfl ?_
      rintro _ w56 ⟨rfl, hS56⟩
      clear hS2002
      refine S.pickT rfl rfl ?_
      refine S.assignT rfl ?_
      refine WS.done ?_
      refine WR.condD rfl (fun c50 => ?_) (fun c50 => ?_)
      ·
        skip
        refine WR.seq ?_
        refine WR.region rfl ?_
        refine S.buildZero ti37 rfl (by kernel_rfl) rfl ?_
        refine S.storeB (i := 2) hS56 rfl ti37 rfl rfl rfl rfl rfl rfl rfl rfl ?_
        intro w2009 hS2009; clear hS56
        refine S.assignC rfl ?_
        refine S.assignC rfl ?_
        refine WS.done ?_
        refine WR.ret (retC2 rfl rfl (run_loadBA (i := 2) hS2009 rfl Try.underlying37 rfl ti37 rfl rfl) rfl rfl ?_)
        have hk : (aget m a).isSome = false := by
          cases hk : (aget m a).isSome with
          | false => rfl
          | true => exact absurd (hI.pos.2 hk) c27
        rw [grant_chk (by rw [chk_full c15 hk c50]; decide), chk_full c15 hk c50]
        exact ⟨rfl, ((((hS2009.at_ (i := 0) rfl).at_ (i := 2) rfl).at_ (i := 2) rfl).drop.drop)⟩
      ·
        skip
        refine WR.skip ?_
        refine WR.seq ?_
        refine WR.regionW (fun j => Nat.beq j 11) 12 rfl mixed hS56 ?_
        intro w6010 hS6010; clear hS56; have hC := hS6010
        refine WA.take (fuel := 11) 0 rfl (by kernel_rfl) (by kernel_rfl) (by kernel_rfl) (by kernel_rfl) rfl rfl hC ?_
        refine Q.moveT rfl ?_
        refine WQ.done ?_
        refine WA.take (fuel := 10) 1 rfl (by kernel_rfl) (by kernel_rfl) (by kernel_rfl) (by kernel_rfl) rfl rfl hC ?_
        refine Q.moveT rfl ?_
        refine WQ.done ?_
        refine WA.take (fuel := 9) 2 rfl (by kernel_rfl) (by kernel_rfl) (by kernel_rfl) (by kernel_rfl) rfl rfl hC ?_
        refine Q.fieldB Try.underlying37 rfl ti2 rfl rfl rfl rfl ?_
        refine WQ.done ?_
        refine WA.take (fuel := 8) 3 rfl (by kernel_rfl) (by kernel_rfl) (by kernel_rfl) (by kernel_rfl) rfl rfl hC ?_
        refine Q.loadB (i := 1) rfl Try.underlying2 rfl rfl rfl rfl ?_
        refine WQ.done ?_
        refine WA.take (fuel := 7) 4 rfl (by kernel_rfl) (by kernel_rfl) (by kernel_rfl) (by kernel_rfl) rfl rfl hC ?_
        first
          | refine Q.addN rfl rfl rfl (by omega) ?_
          | refine Q.add rfl rfl rfl ?_
        refine WQ.done ?_
        refine WA.take (fuel := 6) 5 rfl (by kernel_rfl) (by kernel_rfl) (by kernel_rfl) (by kernel_rfl) rfl rfl hC ?_
        refine Q.moveT rfl ?_
        refine WQ.done ?_
        refine WA.take (fuel := 5) 6 rfl (by kernel_rfl) (by kernel_rfl) (by kernel_rfl) (by kernel_rfl) rfl rfl hC ?_
        refine Q.moveT rfl ?_
        refine WQ.done ?_
        refine WA.takeP (fuel := 4) 8 rfl (by kernel_rfl) (by kernel_rfl) (by kernel_rfl) rfl rfl ?_
        refine Q.nilCheck rfl rfl ?_
        refine WQ.done ?_
        refine WA.takeP (fuel := 3) 9 rfl (by kernel_rfl) (by kernel_rfl) (by kernel_rfl) rfl rfl ?_
        refine Q.fieldB Try.underlying61 rfl ti59 rfl rfl rfl rfl ?_
        refine WQ.done ?_
        refine WA.one (fuel := 2) 7 rfl (by kernel_rfl) rfl ?_
        refine S.buildStruct [.int _ _, .int _ _, .int _ _] [(0, 1), (1, 1), (2, 1)] Try.underlying37 ti37 rfl (by kernel_rfl) rfl rfl rfl rfl rfl rfl ?_
        refine WS.done ⟨fun _ => hS6010, ?_⟩
        replace hC := hS6010
        refine WA.take (fuel := 1) 10 rfl (by kernel_rfl) (by kernel_rfl) (by kernel_rfl) (by kernel_rfl) rfl rfl hC ?_
        refine Q.ixTab (p := 1) Try.underlying59 ti37 rfl rfl (by omega) rfl ?_
        refine WQ.done ?_
        refine WA.one (fuel := 0) 11 rfl (by kernel_rfl) rfl ?_
        refine S.storeTabA (p := 1) (n := 3) (i := 0) (newE m a b t) hS6010 rfl rfl (fun _ _ => rfl) ti37 rfl (by rw [tabR_len]; omega) rfl rfl rfl rfl rfl ?_
        intro w2011 hS2011; clear hS6010
        refine WS.done ⟨fun h => absurd h (by decide), ?_⟩
        refine WA.done (by kernel_rfl) ?_
        clear hC
        refine WR.seq ?_
        refine WR.region rfl ?_
        rw [tabR_put (by omega)] at hS2011
        refine S.moveT rfl ?_
        refine S.moveT rfl ?_
        refine S.nilCheck rfl rfl ?_
        refine S.fieldB Try.underlying61 rfl ti59 rfl rfl rfl rfl ?_
        refine S.ixTab (p := 1) Try.underlying59 ti37 rfl rfl (by omega) rfl ?_
        first
          | refine S.loadTabA (p := 1) (n := 3) (i := 0) hS2011 rfl rfl (fun _ _ => rfl) Try.underlying37 rfl ti37 rfl (getD_tabN (z := zE) (by rw [tabR_len]; omega)) rfl ?_
          | refine S.loadTabA (p := 1) (n := 3) (i := 0) hS2011 rfl rfl (fun _ _ => rfl) Try.underlying37 rfl ti37 rfl (getD_tab (z := zE) (by rw [tabR_len]; omega)) rfl ?_
        refine S.as (d := 75) rfl (v' := entV (newE m a b t)) (by rw [tabR_get (m := aput m a (newE m a b t)) (by omega), oldE_put]; rfl) ?_
        refine S.storeB (i := 2) hS2011 rfl ti37 rfl rfl rfl rfl rfl rfl rfl rfl ?_
        intro w2012 hS2012; clear hS2011
        refine S.assignC rfl ?_
        refine S.assignC rfl ?_
        refine WS.done ?_
        refine WR.ret (retC2 rfl rfl (run_loadBA (i := 2) hS2012 rfl Try.underlying37 rfl ti37 rfl rfl) rfl rfl ?_)
        have hk : (aget m a).isSome = false := by
          cases hk : (aget m a).isSome with
          | false => rfl
          | true => exact absurd (hI.pos.2 hk) c27
        have ho := oldE_none hk
        rw [grant_new (chk_ok c15 (.inr (by omega))) (by rw [ho]; simp only; omega) (by rw [ho]; simp only; omega) (by rw [ho]; decide)]
        exact ⟨rfl, ((((hS2012.at_ (i := 0) rfl).at_ (i := 2) rfl).at_ (i := 2) rfl).drop.drop)⟩

set_option maxRecDepth 100000 in
set_option maxHeartbeats 4000000 in
theorem s_set {w : World} {R : Kn} {L : List HP} {mo : Int} {m : EM} {bs : Nat} (hS : St w R (blk bs (.cells (tabC [.int .i64 mo] e3C (tabR m)) 61 (0, 0)) :: L)) {a : Int} {ep bo at_ : Int} (hI : RI mo m) :
    Fn Try.prog 13 #[.pointer (some ⟨bs, 0, none⟩), .int .i64 a, .agg #[.int .i64 ep, .int .i64 bo, .int .i64 at_]] w (fun v w' => v = .int .i64 (sett mo m a (ep, bo, at_)).1 ∧ St w' R (blk bs (.cells (tabC [.int .i64 mo] e3C (tabR (sett mo m a (ep, bo, at_)).2)) 61 (0, 0)) :: L)) := by
  have hof := hI.old_fits (a := a)
  have hln := hI.len
  have hmo := hI.mo0
  refine Fn.intro (n := 42) Try.func13 rfl rfl rfl ?_
  refine WR.seq ?_
  refine WR.region rfl ?_
  refine S.box hS rfl rfl rfl ?_
  intro b5 w5 hS5; clear hS
  refine S.assignC rfl ?_
  refine WS.done ?_
  refine WR.seq ?_
  refine WR.block ?_
  refine WR.seq ?_
  refine WR.region rfl ?_
  refine S.moveT rfl ?_
  refine S.fieldB Try.underlying37 rfl ti2 rfl rfl rfl rfl ?_
  refine S.loadB (i := 0) hS5 rfl Try.underlying2 rfl rfl rfl rfl ?_
  refine S.fieldB Try.underlying37 rfl ti2 rfl rfl rfl rfl ?_
  refine S.loadB (i := 0) hS5 rfl Try.underlying2 rfl rfl rfl rfl ?_
  refine S.call ent21 rfl (s_wrong hS5 ) rfl ?_
  rintro _ w13 ⟨rfl, hS13⟩
  clear hS5
  refine S.moveT rfl ?_
  refine S.splitD (d := 14) rfl (fun c14 => ?_) (fun c14 => ?_)
  ·
    skip
    refine S.off rfl ?_
    refine S.off rfl ?_
    refine S.off rfl ?_
    refine S.pickTC rfl rfl ?_
    refine S.moveT rfl ?_
    refine S.off rfl ?_
    refine S.off rfl ?_
    refine S.off rfl ?_
    refine S.pickTC rfl rfl ?_
    refine S.assignT rfl ?_
    refine WS.done ?_
    refine WR.condT rfl ?_
    refine WR.seq ?_
    refine WR.region rfl ?_
    refine S.assignC rfl ?_
    refine WS.done ?_
    refine WR.ret (ret1 rfl rfl ?_)
    rw [sett_err (e := (ep, bo, at_)) (.inl (chk_bad c14))]
    exact ⟨rfl, (hS13.drop)⟩
  ·
    skip
    refine S.fieldB Try.underlying37 rfl ti2 rfl rfl rfl rfl ?_
    refine S.loadB (i := 0) hS13 rfl Try.underlying2 rfl rfl rfl rfl ?_
    refine S.lss rfl rfl rfl ?_
    refine S.pickF rfl rfl ?_
    refine S.moveT rfl ?_
    refine S.splitD (d := 19) rfl (fun c19 => ?_) (fun c19 => ?_)
    ·
      skip
      refine S.off rfl ?_
      refine S.off rfl ?_
      refine S.off rfl ?_
      refine S.pickTC rfl rfl ?_
      refine S.assignT rfl ?_
      refine WS.done ?_
      refine WR.condT rfl ?_
      refine WR.seq ?_
      refine WR.region rfl ?_
      refine S.assignC rfl ?_
      refine WS.done ?_
      refine WR.ret (ret1 rfl rfl ?_)
      rw [sett_err (e := (ep, bo, at_)) (by simp only; omega)]
      exact ⟨rfl, (hS13.drop)⟩
    ·
      skip
      refine S.fieldB Try.underlying37 rfl ti2 rfl rfl rfl rfl ?_
      refine S.loadB (i := 0) hS13 rfl Try.underlying2 rfl rfl rfl rfl ?_
      refine S.gtr rfl rfl rfl ?_
      refine S.pickF rfl rfl ?_
      refine S.assignT rfl ?_
      refine WS.done ?_
      refine WR.condD rfl (fun c7 => ?_) (fun c7 => ?_)
      ·
        skip
        refine WR.seq ?_
        refine WR.region rfl ?_
        refine S.assignC rfl ?_
        refine WS.done ?_
        refine WR.ret (ret1 rfl rfl ?_)
        rw [sett_err (e := (ep, bo, at_)) (by simp only; omega)]
        exact ⟨rfl, (hS13.drop)⟩
      ·
        skip
        refine WR.seq ?_
        have hnb := c14
        unfold badE at hnb
        refine WR.region rfl ?_
        refine S.moveT rfl ?_
        refine S.moveT rfl ?_
        refine S.nilCheck rfl rfl ?_
        refine S.fieldB Try.underlying61 rfl ti59 rfl rfl rfl rfl ?_
        refine S.ixTab (p := 1) Try.underlying59 ti37 rfl rfl (by omega) rfl ?_
        refine S.fieldB Try.underlying37 rfl ti2 rfl rfl rfl rfl ?_
        first
          | refine S.loadTabF (p := 1) (n := 3) (i := 1) hS13 rfl rfl (fun _ _ => rfl) Try.underlying2 rfl rfl (getD_tabN (z := zE) (by rw [tabR_len]; omega)) rfl rfl ?_
          | refine S.loadTabF (p := 1) (n := 3) (i := 1) hS13 rfl rfl (fun _ _ => rfl) Try.underlying2 rfl rfl (getD_tab (z := zE) (by rw [tabR_len]; omega)) rfl rfl ?_
        refine S.as (d := 31) rfl (v' := .int .i64 (oldE m a).1) (by rw [tabR_get (by omega)]; rfl) ?_
        refine S.gtr rfl rfl rfl ?_
        refine S.assignT rfl ?_
        refine WS.done ?_
        refine WR.condD rfl (fun c24 => ?_) (fun c24 => ?_)
        ·
          skip
          refine WR.seq ?_
          refine WR.region rfl ?_
          refine S.assignC rfl ?_
          refine WS.done ?_
          refine WR.ret (ret1 rfl rfl ?_)
          rw [sett_there (e := (ep, bo, at_)) c14 (by simp only; omega) (hI.pos.1 c24)]
          exact ⟨rfl, (hS13.drop)⟩
        ·
          skip
          refine WR.seq ?_
          refine WR.region rfl ?_
          refine S.moveT rfl ?_
          refine S.call ent22 rfl (s_full ((hS13.at_ (i := 0) rfl).at_ (i := 1) rfl) (by assumption)) rfl ?_
          rintro _ w35 ⟨rfl, hS35⟩
          clear hS13
          refine S.assignT rfl ?_
          refine WS.done ?_
          refine WR.condD rfl (fun c33 => ?_) (fun c33 => ?_)
          ·
            skip
            refine WR.seq ?_
            refine WR.region rfl ?_
            refine S.assignC rfl ?_
            refine WS.done ?_
            refine WR.ret (ret1 rfl rfl ?_)
            have hk : (aget m a).isSome = false := by
              cases hk : (aget m a).isSome with
              | false => rfl
              | true => exact absurd (hI.pos.2 hk) c24
            rw [sett_full (e := (ep, bo, at_)) c14 (by simp only; omega) hk c33]
            exact ⟨rfl, (((hS35.at_ (i := 0) rfl).at_ (i := 1) rfl).drop)⟩
          ·
            skip
            refine WR.skip ?_
            refine WR.seq ?_
            refine WR.regionW (fun j => Nat.beq j 6) 7 rfl mixed hS35 ?_
            intro w6001 hS6001; clear hS35; have hC := hS6001
            refine WA.take (fuel := 6) 0 rfl (by kernel_rfl) (by kernel_rfl) (by kernel_rfl) (by kernel_rfl) rfl rfl hC ?_
            refine Q.moveT rfl ?_
            refine WQ.done ?_
            refine WA.take (fuel := 5) 1 rfl (by kernel_rfl) (by kernel_rfl) (by kernel_rfl) (by kernel_rfl) rfl rfl hC ?_
            refine Q.moveT rfl ?_
            refine WQ.done ?_
            refine WA.take (fuel := 4) 2 rfl (by kernel_rfl) (by kernel_rfl) (by kernel_rfl) (by kernel_rfl) rfl rfl hC ?_
            refine Q.loadBA (i := 1) rfl Try.underlying37 rfl ti37 rfl rfl rfl rfl ?_
            refine WQ.done ?_
            refine WA.one (fuel := 3) 3 rfl (by kernel_rfl) rfl ?_
            refine S.nilCheck rfl rfl ?_
            refine WS.done ⟨fun _ => hS6001, ?_⟩
            replace hC := hS6001
            refine WA.one (fuel := 2) 4 rfl (by kernel_rfl) rfl ?_
            refine S.fieldB Try.underlying61 rfl ti59 rfl rfl rfl rfl ?_
            refine WS.done ⟨fun _ => hS6001, ?_⟩
            replace hC := hS6001
            refine WA.take (fuel := 1) 5 rfl (by kernel_rfl) (by kernel_rfl) (by kernel_rfl) (by kernel_rfl) rfl rfl hC ?_
            refine Q.ixTab (p := 1) Try.underlying59 ti37 rfl rfl (by omega) rfl ?_
            refine WQ.done ?_
            refine WA.one (fuel := 0) 6 rfl (by kernel_rfl) rfl ?_
            refine S.storeTabA (p := 1) (n := 3) (i := 0) ((ep, bo, at_) : E3) hS6001 rfl rfl (fun _ _ => rfl) ti37 rfl (by rw [tabR_len]; omega) rfl rfl rfl rfl rfl ?_
            intro w2002 hS2002; clear hS6001
            refine WS.done ⟨fun h => absurd h (by decide), ?_⟩
            refine WA.done (by kernel_rfl) ?_
            clear hC
            refine WR.seq ?_
            refine WR.region rfl ?_
            refine S.assignC rfl ?_
            refine WS.done ?_
            refine WR.ret (ret1 rfl rfl ?_)
            have hk : (aget m a).isSome = false := by
              cases hk : (aget m a).isSome with
              | false => rfl
              | true => exact absurd (hI.pos.2 hk) c24
            rw [tabR_put (by omega)] at hS2002
            rw [sett_new (e := (ep, bo, at_)) c14 (by simp only; omega) hk (by omega)]
            exact ⟨rfl, (((hS2002.at_ (i := 0) rfl).at_ (i := 1) rfl).drop)⟩

set_option maxRecDepth 100000 in
set_option maxHeartbeats 4000000 in
theorem l15_of {w : World} {R : Kn} {L : List HP}  (hS : St w R (L)) {ep bo at_ : Int} :
    Fn Try.prog 11 #[.agg #[.int .i64 ep, .int .i64 bo, .int .i64 at_]] w (fun v w' => v = .agg #[.int .i64 ep, .int .i64 bo, .int .i64 at_] ∧ St w' R L) := by
  refine Fn.intro (n := 10) Try.func11 rfl rfl rfl ?_
  refine WR.seq ?_
  refine WR.region rfl ?_
  refine S.box hS rfl rfl rfl ?_
  intro b1 w1 hS1; clear hS
  refine S.alloc hS1 ti37 rfl rfl ?_
  intro b2 w2 hS2; clear hS1
  refine WS.done ?_
  refine WR.seq ?_
  refine WR.region rfl ?_
  refine S.fieldB Try.underlying34 rfl ti2 rfl rfl rfl rfl ?_
  refine S.loadB (i := 1) hS2 rfl Try.underlying2 rfl rfl rfl rfl ?_
  refine S.fieldB Try.underlying34 rfl ti2 rfl rfl rfl rfl ?_
  refine S.loadB (i := 1) hS2 rfl Try.underlying2 rfl rfl rfl rfl ?_
  refine S.fieldB Try.underlying34 rfl ti2 rfl rfl rfl rfl ?_
  refine S.loadB (i := 1) hS2 rfl Try.underlying2 rfl rfl rfl rfl ?_
  refine S.buildStruct [.int _ _, .int _ _, .int _ _] [(0, 1), (1, 1), (2, 1)] Try.underlying37 ti37 rfl (by kernel_rfl) rfl rfl rfl rfl rfl rfl ?_
  refine S.storeB (i := 0) hS2 rfl ti37 rfl rfl rfl rfl rfl rfl rfl rfl ?_
  intro w2001 hS2001; clear hS2
  refine WS.done ?_
  refine WR.ret (retC rfl rfl (run_loadBA (i := 0) hS2001 rfl Try.underlying37 rfl ti37 rfl rfl) ?_)
  exact ⟨rfl, hS2001.drop.drop⟩


end Go.Proofs.Ytiffedgmageiaaa.B

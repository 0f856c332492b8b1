import Derived.Test.YtiffedgmageiaaaWalkB
import Derived.Test.YtiffedgmageiaaaWalkC
namespace Go.Proofs.Ytiffedgmageiaaa.B
open Go.Proofs Go.RowKit
set_option linter.unusedVariables false
set_option linter.unusedSimpArgs false
set_option maxRecDepth 100000 in
set_option maxHeartbeats 4000000 in
theorem l15_Agree {w : World} {R : Kn} {L : List HP} {mo mo2 : Int} {m : EM} {bh bm bs : Nat} (hS : St w R (blk bh (.cells (#[.int .i64 mo, .map (some bm)]) 58 (0, 0)) :: Mp Try.prog 2 bm (mE entV m) :: blk bs (.cells (tabC [.int .i64 mo2] e3C (tabR m)) 61 (0, 0)) :: L)) (hRI : RI mo m) :
    Fn Try.prog 14 #[.pointer (some ⟨bh, 0, none⟩), .pointer (some ⟨bs, 0, none⟩)] w (fun v w' => v = .bool true ∧ St w' R (blk bh (.cells (#[.int .i64 mo, .map (some bm)]) 58 (0, 0)) :: Mp Try.prog 2 bm (mE entV m) :: blk bs (.cells (tabC [.int .i64 mo2] e3C (tabR m)) 61 (0, 0)) :: L)) := by
  refine Fn.introG (n := 64) Try.func14 rfl rfl rfl ?_
  refine WG.seq ?_
  refine WG.region rfl ?_
  refine S.box hS rfl rfl rfl ?_
  intro b3 w3 hS3; clear hS
  refine S.alloc hS3 ti4 rfl rfl ?_
  intro b4 w4 hS4; clear hS3
  refine WS.done ?_
  refine WG.seq ?_
  refine WG.region rfl ?_
  refine S.alloc hS4 ti2 rfl rfl ?_
  intro b5 w5 hS5; clear hS4
  refine S.storeB (i := 0) hS5 rfl ti2 rfl rfl rfl rfl rfl rfl rfl rfl ?_
  intro w2001 hS2001; clear hS5
  refine WS.done ?_
  refine WG.seq ?_
  refine WG.region rfl ?_
  refine S.moveT rfl ?_
  refine S.call ent18 rfl (r_all hS2001 ) rfl ?_
  rintro _ w10 ⟨R10, bp10, hR10, rfl, hro10, hS10⟩
  clear hS2001
  refine S.assignT rfl ?_
  refine WS.done ?_
  refine WG.seq ?_
  refine WG.seq ?_
  refine WG.region rfl ?_
  refine S.moveT rfl ?_
  refine S.eqlNilF (run_equal_func_nil Try.underlying51) rfl rfl rfl ?_
  refine WS.done ?_
  refine WG.condF rfl ?_
  refine WG.skip ?_
  refine WG.seq ?_
  refine WG.seq ?_
  refine WG.region rfl ?_
  refine S.moveT rfl ?_
  refine WS.done ?_
  refine WG.block ?_
  refine WG.rangeFuncX (xs := m) (enc := entA) (Lc := [blk b5 (.cells (#[.int .i64 (frR ([] : EM))]) 2 (0, 0)), blk b3 (.cells (#[.pointer (some ⟨bs, 0, none⟩)]) 28 (0, 0)), blk bs (.cells (tabC [.int .i64 mo2] e3C (tabR m)) 61 (0, 0))]) (T := _) (fun pre _ Lk => Lk = [blk b5 (.cells (#[.int .i64 (frR pre)]) 2 (0, 0)), blk b3 (.cells (#[.pointer (some ⟨bs, 0, none⟩)]) 28 (0, 0)), blk bs (.cells (tabC [.int .i64 mo2] e3C (tabR m)) 61 (0, 0))]) (fun _ _ => False) (fun r x b => upd (cp (upd (upd r 14 (.int .i64 x.1)) 15 (entV x.2)) 7 14) 8 (.pointer (some ⟨b, 0, none⟩))) (fun x b => [blk b (.cells (#[.int .i64 x.2.1, .int .i64 x.2.2.1, .int .i64 x.2.2.2]) 34 (0, 0))]) ((((((hS10.at_ (i := 4) rfl).at_ (i := 4) rfl).at_ (i := 3) rfl).at_ (i := 5) rfl).at_ (i := 5) rfl).at_ (i := 5) rfl) rfl (fun args w => run_callFunc ent23 args w) (fun _ => rfl) rfl (all_iter hro10 hRI) (Kn.le.refl _) ((perm_erase _ 5 _ rfl).trans (perm_erase _ 5 _ rfl)) (rfl) ?_ ?_ ?_ ?_
  ·
    intro pre x suf Rk Lk T' W hpx hle hI hSa l K hK
    rw [show entA x = #[.int .i64 x.1, entV x.2] from rfl, setp2]
    refine WG.seq ?_
    refine WG.region rfl ?_
    refine S.assignT rfl ?_
    refine WS.done ?_
    refine WG.region rfl ?_
    refine S.alloc hSa ti34 rfl rfl ?_
    intro b8 w8 hS8; clear hSa
    refine S.storeB (i := 0) hS8 rfl ti34 rfl rfl rfl rfl rfl rfl rfl rfl ?_
    intro w2002 hS2002; clear hS8
    refine WS.done ?_
    exact ⟨rfl, hK b8 _ hS2002⟩
  ·
    intro l T' pre x suf Rk Lk b W hpx hle hI hSb
    subst hI
    replace hSb : St W Rk (blk b (.cells (#[.int .i64 x.2.1, .int .i64 x.2.2.1, .int .i64 x.2.2.2]) 34 (0, 0)) :: blk b5 (.cells (#[.int .i64 (frR pre)]) 2 (0, 0)) :: blk b3 (.cells (#[.pointer (some ⟨bs, 0, none⟩)]) 28 (0, 0)) :: blk bs (.cells (tabC [.int .i64 mo2] e3C (tabR m)) 61 (0, 0)) :: T') := hSb
    obtain ⟨bx, rfl⟩ : ∃ bx, bx = b := ⟨b, rfl⟩
    have hxm : x ∈ m := by rw [← hpx]; simp
    have hxk := hRI.key x hxm
    have hxe := hRI.ep x hxm
    obtain ⟨hf0, hf1⟩ := frR_fr (by rw [hpx]; exact hRI.rise) (fun p hp => (hRI.key p (by rw [← hpx]; exact hp)).1) (pre := pre) (x := x) (suf := suf)
    have hxo := oldE_of (aget_of hRI.rise hxm)
    refine WG.block ?_
    refine WG.seq ?_
    refine WG.seq ?_
    refine WG.region rfl ?_
    refine S.moveT rfl ?_
    refine S.loadB (i := 1) hSb rfl Try.underlying2 rfl rfl rfl rfl ?_
    refine S.lss rfl rfl rfl ?_
    refine S.isFD (d := 18) rfl (by omega) ?_
    refine S.moveT rfl ?_
    refine S.moveT rfl ?_
    refine S.gtr rfl rfl rfl ?_
    refine S.isFD (d := 21) rfl (by omega) ?_
    refine S.pickF rfl rfl ?_
    refine WS.done ?_
    refine WG.condF rfl ?_
    refine WG.skip ?_
    refine WG.seq ?_
    refine WG.block ?_
    refine WG.loopE (fun rq mm rr wr => ∃ (j : Int), mm = (x.1 - j).toNat ∧ (frR pre ≤ j ∧ j ≤ x.1) ∧ Agr [3, 4, 5, 7, 8] rr rq ∧ St wr Rk (blk bx (.cells (#[.int .i64 x.2.1, .int .i64 x.2.2.1, .int .i64 x.2.2.2]) 34 (0, 0)) :: blk b5 (.cells (#[.int .i64 j]) 2 (0, 0)) :: blk b3 (.cells (#[.pointer (some ⟨bs, 0, none⟩)]) 28 (0, 0)) :: blk bs (.cells (tabC [.int .i64 mo2] e3C (tabR m)) 61 (0, 0)) :: T')) ⟨frR pre, rfl, (by omega), ⟨rfl, rfl, rfl, rfl, rfl, trivial⟩, hSb⟩ ?_
    rintro mm rr w1001 ⟨j, hm1001, hj, hA1001, hS1001⟩
    obtain ⟨rr, rfl⟩ := agrBack hA1001
    clear hA1001
    refine WG.seq ?_
    refine WG.seq ?_
    refine WG.region rfl ?_
    refine S.loadB (i := 1) hS1001 rfl Try.underlying2 rfl rfl rfl rfl ?_
    refine S.moveT rfl ?_
    refine S.lss rfl rfl rfl ?_
    refine WS.done ?_
    refine WG.condD rfl (fun c25 => ?_) (fun c25 => ?_)
    ·
      skip
      refine WG.skip ?_
      refine WG.block ?_
      refine WG.seq ?_
      refine WG.seq ?_
      have hgj : oldE m j = zE := oldE_none (by have h9 := frR_gap (j := j) (by rw [hpx]; exact hRI.rise) (by omega) c25; rw [hpx] at h9; rw [h9]; rfl)
      refine WG.regionQ mixed hS1001 (by kernel_rfl) rfl rfl ?_
      refine Q.loadB (i := 2) rfl Try.underlying28 rfl rfl rfl rfl ?_
      refine Q.loadB (i := 1) rfl Try.underlying2 rfl rfl rfl rfl ?_
      refine Q.nilCheck rfl rfl ?_
      refine Q.fieldB Try.underlying61 rfl ti59 rfl rfl rfl rfl ?_
      refine Q.ixTab (p := 1) Try.underlying59 ti37 rfl rfl (by omega) rfl ?_
      refine Q.fieldB Try.underlying37 rfl ti2 rfl rfl rfl rfl ?_
      first
        | refine Q.loadTabF (p := 1) (n := 3) (i := 3) rfl rfl (fun _ _ => rfl) Try.underlying2 rfl rfl (getD_tabN (z := zE) (by rw [tabR_len]; omega)) rfl rfl ?_
        | refine Q.loadTabF (p := 1) (n := 3) (i := 3) rfl rfl (fun _ _ => rfl) Try.underlying2 rfl rfl (getD_tab (z := zE) (by rw [tabR_len]; omega)) rfl rfl ?_
      refine Q.as (d := 32) rfl (v' := .int .i64 0) (by rw [tabR_get (by omega), hgj]; rfl) ?_
      refine Q.gtr rfl rfl rfl ?_
      refine Q.isFD (d := 33) rfl (by decide) ?_
      refine WQ.done ?_
      intro w5003 hS5003
      clear hS1001
      refine WG.condF rfl ?_
      refine WG.skip ?_
      refine WG.region rfl ?_
      refine S.loadB (i := 1) hS5003 rfl Try.underlying2 rfl rfl rfl rfl ?_
      first
        | refine S.addN rfl rfl rfl (by omega) ?_
        | refine S.add rfl rfl rfl ?_
      refine S.storeB (i := 1) hS5003 rfl ti2 rfl rfl rfl rfl rfl rfl rfl rfl ?_
      intro w2004 hS2004; clear hS5003
      refine WS.done ?_
      exact ⟨rfl, _, (by omega), ⟨j + 1, rfl, (by omega), ⟨rfl, rfl, rfl, rfl, rfl, trivial⟩, hS2004⟩⟩
    ·
      skip
      refine WG.exit ?_
      refine WG.seq ?_
      refine WG.seq ?_
      refine WG.regionW (fun j => false) 14 rfl rfl mixed hS1001 ?_
      intro w6005 hS6005; clear hS1001; have hC := hS6005
      refine WA.take (fuel := 13) 0 rfl (by kernel_rfl) (by kernel_rfl) (by kernel_rfl) (by kernel_rfl) rfl rfl hC ?_
      refine Q.loadBA (i := 0) rfl Try.underlying34 rfl ti34 rfl rfl rfl rfl ?_
      refine WQ.done ?_
      refine WA.take (fuel := 12) 2 rfl (by kernel_rfl) (by kernel_rfl) (by kernel_rfl) (by kernel_rfl) rfl rfl hC ?_
      refine Q.loadB (i := 2) rfl Try.underlying28 rfl rfl rfl rfl ?_
      refine WQ.done ?_
      refine WA.take (fuel := 11) 3 rfl (by kernel_rfl) (by kernel_rfl) (by kernel_rfl) (by kernel_rfl) rfl rfl hC ?_
      refine Q.moveT rfl ?_
      refine WQ.done ?_
      refine WA.take (fuel := 10) 4 rfl (by kernel_rfl) (by kernel_rfl) (by kernel_rfl) (by kernel_rfl) rfl rfl hC ?_
      refine Q.nilCheck rfl rfl ?_
      refine WQ.done ?_
      refine WA.take (fuel := 9) 5 rfl (by kernel_rfl) (by kernel_rfl) (by kernel_rfl) (by kernel_rfl) rfl rfl hC ?_
      refine Q.fieldB Try.underlying61 rfl ti59 rfl rfl rfl rfl ?_
      refine WQ.done ?_
      refine WA.take (fuel := 8) 6 rfl (by kernel_rfl) (by kernel_rfl) (by kernel_rfl) (by kernel_rfl) rfl rfl hC ?_
      refine Q.ixTab (p := 1) Try.underlying59 ti37 rfl rfl (by omega) rfl ?_
      refine WQ.done ?_
      refine WA.take (fuel := 7) 7 rfl (by kernel_rfl) (by kernel_rfl) (by kernel_rfl) (by kernel_rfl) rfl rfl hC ?_
      first
        | refine Q.loadTabA (p := 1) (n := 3) (i := 3) rfl rfl (fun _ _ => rfl) Try.underlying37 rfl ti37 rfl (getD_tabN (z := zE) (by rw [tabR_len]; omega)) rfl ?_
        | refine Q.loadTabA (p := 1) (n := 3) (i := 3) rfl rfl (fun _ _ => rfl) Try.underlying37 rfl ti37 rfl (getD_tab (z := zE) (by rw [tabR_len]; omega)) rfl ?_
      refine Q.as (d := 43) rfl (v' := entV x.2) (by rw [tabR_get (by omega), hxo]; rfl) ?_
      refine WQ.done ?_
      refine WA.one (fuel := 6) 1 rfl (by kernel_rfl) rfl ?_
      refine S.call ent11 rfl (l15_of hS6005 ) rfl ?_
      rintro _ w37 ⟨rfl, hS37⟩
      clear hS6005
      refine WS.done ⟨fun _ => hS37, ?_⟩
      replace hC := hS37
      refine WA.take (fuel := 5) 8 rfl (by kernel_rfl) (by kernel_rfl) (by kernel_rfl) (by kernel_rfl) rfl rfl hC ?_
      refine Q.neqS rfl rfl (by kernel_rfl) (Eq1.struct Try.underlying37 (by kernel_rfl) (EqF.cons (by decide) (Part1.one Try.underlying2 rfl rfl) (Part1.one Try.underlying2 rfl rfl) (Eq1.int Try.underlying2) (EqF.cons (by decide) (Part1.one Try.underlying2 rfl rfl) (Part1.one Try.underlying2 rfl rfl) (Eq1.int Try.underlying2) (EqF.one (by decide) (Part1.one Try.underlying2 rfl rfl) (Part1.one Try.underlying2 rfl rfl) (Eq1.int Try.underlying2))))) rfl ?_
      refine Q.isFD (d := 44) rfl (by exact fun h => h ⟨rfl, rfl, rfl⟩) ?_
      refine WQ.done ?_
      refine WA.take (fuel := 4) 9 rfl (by kernel_rfl) (by kernel_rfl) (by kernel_rfl) (by kernel_rfl) rfl rfl hC ?_
      refine Q.moveT rfl ?_
      refine WQ.done ?_
      refine WA.take (fuel := 3) 10 rfl (by kernel_rfl) (by kernel_rfl) (by kernel_rfl) (by kernel_rfl) rfl rfl hC ?_
      refine Q.fieldB Try.underlying34 rfl ti2 rfl rfl rfl rfl ?_
      refine WQ.done ?_
      refine WA.take (fuel := 2) 11 rfl (by kernel_rfl) (by kernel_rfl) (by kernel_rfl) (by kernel_rfl) rfl rfl hC ?_
      refine Q.loadB (i := 0) rfl Try.underlying2 rfl rfl rfl rfl ?_
      refine WQ.done ?_
      refine WA.take (fuel := 1) 12 rfl (by kernel_rfl) (by kernel_rfl) (by kernel_rfl) (by kernel_rfl) rfl rfl hC ?_
      refine Q.lss rfl rfl rfl ?_
      refine Q.isFD (d := 48) rfl (by omega) ?_
      refine WQ.done ?_
      refine WA.take (fuel := 0) 13 rfl (by kernel_rfl) (by kernel_rfl) (by kernel_rfl) (by kernel_rfl) rfl rfl hC ?_
      refine Q.pickF rfl rfl ?_
      refine WQ.done ?_
      refine WA.done (by kernel_rfl) ?_
      clear hC
      refine WG.condF rfl ?_
      refine WG.skip ?_
      refine WG.region rfl ?_
      refine S.moveT rfl ?_
      first
        | refine S.addN rfl rfl rfl (by omega) ?_
        | refine S.add rfl rfl rfl ?_
      refine S.storeB (i := 1) hS37 rfl ti2 rfl rfl rfl rfl rfl rfl rfl rfl ?_
      intro w2006 hS2006; clear hS37
      refine WS.done ?_
      exact ⟨rfl, Rk, [blk b5 (.cells (#[.int .i64 (frR (pre ++ [x]))]) 2 (0, 0)), blk b3 (.cells (#[.pointer (some ⟨bs, 0, none⟩)]) 28 (0, 0)), blk bs (.cells (tabC [.int .i64 mo2] e3C (tabR m)) 61 (0, 0))], Kn.le.refl _, rfl, by rw [frR_snoc]; exact hS2006.drop⟩
  ·
    intro D Rk Lk W hle hI hSd
    subst hI
    have hfm : 0 ≤ frR m ∧ frR m ≤ 64 := frR_m hRI
    refine WG.seq ?_
    refine WG.block ?_
    refine WG.loopE (fun rq mm rr wr => ∃ (j : Int), mm = (64 - j).toNat ∧ (frR m ≤ j ∧ 0 ≤ j ∧ j ≤ 64) ∧ Agr [3, 4, 5] rr rq ∧ St wr Rk (blk b5 (.cells (#[.int .i64 j]) 2 (0, 0)) :: blk b3 (.cells (#[.pointer (some ⟨bs, 0, none⟩)]) 28 (0, 0)) :: blk bs (.cells (tabC [.int .i64 mo2] e3C (tabR m)) 61 (0, 0)) :: defC D :: blk b4 (.cells (#[.bool false]) 4 (0, 0)) :: blk bh (.cells (#[.int .i64 mo, .map (some bm)]) 58 (0, 0)) :: Mp Try.prog 2 bm (mE entV m) :: L)) ⟨frR m, rfl, (by omega), ⟨rfl, rfl, rfl, trivial⟩, hSd⟩ ?_
    rintro mm rr w1002 ⟨j, hm1002, hj, hA1002, hS1002⟩
    obtain ⟨rr, rfl⟩ := agrBack hA1002
    clear hA1002
    refine WG.seq ?_
    refine WG.seq ?_
    refine WG.region rfl ?_
    refine S.loadB (i := 0) hS1002 rfl Try.underlying2 rfl rfl rfl rfl ?_
    refine S.lss rfl rfl rfl ?_
    refine WS.done ?_
    refine WG.condD rfl (fun c53 => ?_) (fun c53 => ?_)
    ·
      skip
      refine WG.skip ?_
      refine WG.block ?_
      refine WG.seq ?_
      refine WG.seq ?_
      have hgj : oldE m j = zE := oldE_none (by rw [frR_end hRI.rise (j := j) (by omega)]; rfl)
      refine WG.regionQ mixed hS1002 (by kernel_rfl) rfl rfl ?_
      refine Q.loadB (i := 1) rfl Try.underlying28 rfl rfl rfl rfl ?_
      refine Q.loadB (i := 0) rfl Try.underlying2 rfl rfl rfl rfl ?_
      refine Q.nilCheck rfl rfl ?_
      refine Q.fieldB Try.underlying61 rfl ti59 rfl rfl rfl rfl ?_
      refine Q.ixTab (p := 1) Try.underlying59 ti37 rfl rfl (by omega) rfl ?_
      refine Q.fieldB Try.underlying37 rfl ti2 rfl rfl rfl rfl ?_
      first
        | refine Q.loadTabF (p := 1) (n := 3) (i := 2) rfl rfl (fun _ _ => rfl) Try.underlying2 rfl rfl (getD_tabN (z := zE) (by rw [tabR_len]; omega)) rfl rfl ?_
        | refine Q.loadTabF (p := 1) (n := 3) (i := 2) rfl rfl (fun _ _ => rfl) Try.underlying2 rfl rfl (getD_tab (z := zE) (by rw [tabR_len]; omega)) rfl rfl ?_
      refine Q.as (d := 60) rfl (v' := .int .i64 0) (by rw [tabR_get (by omega), hgj]; rfl) ?_
      refine Q.gtr rfl rfl rfl ?_
      refine Q.isFD (d := 61) rfl (by decide) ?_
      refine WQ.done ?_
      intro w5007 hS5007
      clear hS1002
      refine WG.condF rfl ?_
      refine WG.skip ?_
      refine WG.region rfl ?_
      refine S.loadB (i := 0) hS5007 rfl Try.underlying2 rfl rfl rfl rfl ?_
      first
        | refine S.addN rfl rfl rfl (by omega) ?_
        | refine S.add rfl rfl rfl ?_
      refine S.storeB (i := 0) hS5007 rfl ti2 rfl rfl rfl rfl rfl rfl rfl rfl ?_
      intro w2008 hS2008; clear hS5007
      refine WS.done ?_
      exact ⟨rfl, _, (by omega), ⟨j + 1, rfl, (by omega), ⟨rfl, rfl, rfl, trivial⟩, hS2008⟩⟩
    ·
      skip
      refine WG.exit ?_
      refine WG.seq ?_
      refine WG.region rfl ?_
      refine S.storeB (i := 4) hS1002 rfl ti4 rfl rfl rfl rfl rfl rfl rfl rfl ?_
      intro w2009 hS2009; clear hS1002
      refine WS.done ?_
      refine WG.ret (retM (A := []) (hS2009.at_ (i := 3) rfl) (fun wz hSz => ?_))
      refine retC rfl rfl (run_loadB (i := 3) hSz rfl Try.underlying4 rfl rfl) ?_
      exact ⟨rfl, ((((((((hSz.at_ (i := 2) rfl).at_ (i := 5) rfl).at_ (i := 5) rfl).at_ (i := 5) rfl).at_ (i := 5) rfl).at_ (i := 5) rfl).drop.drop.drop)).weak (hR10.trans hle)⟩
  ·
    intro D Rk Lk W hle hI _
    exact hI.elim


end Go.Proofs.Ytiffedgmageiaaa.B

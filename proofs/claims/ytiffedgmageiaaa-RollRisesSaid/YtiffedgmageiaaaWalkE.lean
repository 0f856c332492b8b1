import Derived.Test.YtiffedgmageiaaaWalkD
namespace Go.Proofs.Ytiffedgmageiaaa.B
open Go.Proofs Go.RowKit
set_option linter.unusedVariables false
set_option linter.unusedSimpArgs false
set_option maxRecDepth 100000 in
set_option maxHeartbeats 4000000 in
theorem l15_alive {w : World} {R : Kn} {L : List HP}  (hS : St w R (L))  :
    Fn Try.prog 6 #[] w (fun v w' => v = .bool true ∧ St w' R L) := by
  refine Fn.introG (n := 156) Try.func6 rfl rfl rfl ?_
  refine WG.seq ?_
  refine WG.region rfl ?_
  refine S.assignC rfl ?_
  refine WS.done ?_
  refine WG.seq ?_
  refine WG.region rfl ?_
  refine S.call ent7 rfl (r_new hS ) rfl ?_
  rintro v26 w26 hcs26
  clear hS
  rcases hcs26 with ⟨hkl, -⟩ | ⟨hN26, bh26, bm26, rfl, hS26⟩
  · exact absurd hkl (by omega)
  refine S.moveT rfl ?_
  refine S.extract rfl rfl rfl ?_
  refine S.extract rfl rfl rfl ?_
  refine S.assignT rfl ?_
  refine S.assignT rfl ?_
  refine WS.done ?_
  refine WG.seq ?_
  refine WG.seq ?_
  refine WG.region rfl ?_
  refine S.moveT rfl ?_
  refine S.neq rfl rfl rfl ?_
  refine S.isFD (d := 30) rfl (by decide) ?_
  refine S.moveT rfl ?_
  refine S.moveT rfl ?_
  refine S.eqlNil Try.underlying24 rfl rfl rfl ?_
  refine S.pickF rfl rfl ?_
  refine WS.done ?_
  refine WG.condF rfl ?_
  refine WG.skip ?_
  refine WG.seq ?_
  refine WG.region rfl ?_
  refine S.moveT rfl ?_
  refine S.call ent9 rfl (r_grant hS26 (by unfold fits; omega) (by unfold fits; omega) (by unfold fits; omega) (by exact RI.nil (by omega))) rfl ?_
  rintro _ w37 ⟨rfl, hS37⟩
  clear hS26
  have hg37 : grant 1 [] 3 1 10 = (((1, 1, 10), true, 0), [(3, 1, 1, 10)]) := by decide +kernel
  refine S.as (d := 37) rfl (v' := .tuple #[entV (1, 1, 10), .bool true, .int .i64 0]) (by rw [hg37]; rfl) ?_
  rw [show (grant 1 [] 3 1 10).2 = [(3, 1, 1, 10)] by rw [hg37]] at hS37
  have hI37 : RI 1 [(3, 1, 1, 10)] := by have h9 := (show RI 1 [] by exact RI.nil (by omega)).grant (a := 3) (b := 1) (t := 10); rwa [hg37] at h9
  refine S.moveT rfl ?_
  refine S.extract rfl rfl rfl ?_
  refine S.extract rfl rfl rfl ?_
  refine S.extract rfl rfl rfl ?_
  refine S.alloc hS37 ti34 rfl rfl ?_
  intro b3 w3 hS3; clear hS37
  refine S.storeB (i := 0) hS3 rfl ti34 rfl rfl rfl rfl rfl rfl rfl rfl ?_
  intro w2001 hS2001; clear hS3
  refine S.assignT rfl ?_
  refine S.assignT rfl ?_
  refine WS.done ?_
  refine WG.seq ?_
  refine WG.region rfl ?_
  refine S.moveT rfl ?_
  refine S.call ent9 rfl (r_grant (((hS2001.at_ (i := 0) rfl).at_ (i := 2) rfl).at_ (i := 2) rfl) (by unfold fits; omega) (by unfold fits; omega) (by unfold fits; omega) (by exact hI37)) rfl ?_
  rintro _ w43 ⟨rfl, hS43⟩
  clear hS2001
  have hg43 : grant 1 [(3, 1, 1, 10)] 3 1 20 = (((1, 1, 10), false, 0), [(3, 1, 1, 10)]) := by decide +kernel
  refine S.as (d := 43) rfl (v' := .tuple #[entV (1, 1, 10), .bool false, .int .i64 0]) (by rw [hg43]; rfl) ?_
  rw [show (grant 1 [(3, 1, 1, 10)] 3 1 20).2 = [(3, 1, 1, 10)] by rw [hg43]] at hS43
  have hI43 : RI 1 [(3, 1, 1, 10)] := by have h9 := (show RI 1 [(3, 1, 1, 10)] by exact hI37).grant (a := 3) (b := 1) (t := 20); rwa [hg43] at h9
  refine S.moveT rfl ?_
  refine S.extract rfl rfl rfl ?_
  refine S.extract rfl rfl rfl ?_
  refine S.extract rfl rfl rfl ?_
  refine S.alloc hS43 ti34 rfl rfl ?_
  intro b6 w6 hS6; clear hS43
  refine S.storeB (i := 0) hS6 rfl ti34 rfl rfl rfl rfl rfl rfl rfl rfl ?_
  intro w2002 hS2002; clear hS6
  refine S.assignT rfl ?_
  refine S.assignT rfl ?_
  refine WS.done ?_
  refine WG.seq ?_
  refine WG.region rfl ?_
  refine S.moveT rfl ?_
  refine S.call ent19 rfl (r_clone ((((hS2002.at_ (i := 3) rfl).at_ (i := 1) rfl).at_ (i := 3) rfl).at_ (i := 3) rfl) ) rfl ?_
  rintro _ w48 ⟨bh48, bm48, rfl, hS48⟩
  clear hS2002
  refine S.assignT rfl ?_
  refine WS.done ?_
  refine WG.seq ?_
  refine WG.region rfl ?_
  refine S.moveT rfl ?_
  refine S.call ent9 rfl (r_grant ((((((hS48.at_ (i := 5) rfl).at_ (i := 5) rfl).at_ (i := 3) rfl).at_ (i := 3) rfl).at_ (i := 5) rfl).at_ (i := 5) rfl) (by unfold fits; omega) (by unfold fits; omega) (by unfold fits; omega) (by exact hI37)) rfl ?_
  rintro _ w51 ⟨rfl, hS51⟩
  clear hS48
  have hg51 : grant 1 [(3, 1, 1, 10)] 3 2 30 = (((2, 2, 30), true, 0), [(3, 2, 2, 30)]) := by decide +kernel
  refine S.as (d := 51) rfl (v' := .tuple #[entV (2, 2, 30), .bool true, .int .i64 0]) (by rw [hg51]; rfl) ?_
  rw [show (grant 1 [(3, 1, 1, 10)] 3 2 30).2 = [(3, 2, 2, 30)] by rw [hg51]] at hS51
  have hI51 : RI 1 [(3, 2, 2, 30)] := by have h9 := (show RI 1 [(3, 1, 1, 10)] by exact hI37).grant (a := 3) (b := 2) (t := 30); rwa [hg51] at h9
  refine S.moveT rfl ?_
  refine S.extract rfl rfl rfl ?_
  refine S.extract rfl rfl rfl ?_
  refine S.extract rfl rfl rfl ?_
  refine S.alloc hS51 ti34 rfl rfl ?_
  intro b10 w10 hS10; clear hS51
  refine S.storeB (i := 0) hS10 rfl ti34 rfl rfl rfl rfl rfl rfl rfl rfl ?_
  intro w2003 hS2003; clear hS10
  refine S.assignT rfl ?_
  refine S.assignT rfl ?_
  refine WS.done ?_
  refine WG.seq ?_
  refine WG.region rfl ?_
  refine S.moveT rfl ?_
  refine S.call ent9 rfl (r_grant (((((((hS2003.at_ (i := 6) rfl).at_ (i := 6) rfl).at_ (i := 6) rfl).at_ (i := 6) rfl).at_ (i := 4) rfl).at_ (i := 6) rfl).at_ (i := 6) rfl) (by unfold fits; omega) (by unfold fits; omega) (by unfold fits; omega) (by exact hI51)) rfl ?_
  rintro _ w57 ⟨rfl, hS57⟩
  clear hS2003
  have hg57 : grant 1 [(3, 2, 2, 30)] 3 1 40 = (((0, 0, 0), false, 22), [(3, 2, 2, 30)]) := by decide +kernel
  refine S.as (d := 57) rfl (v' := .tuple #[entV (0, 0, 0), .bool false, .int .i64 22]) (by rw [hg57]; rfl) ?_
  rw [show (grant 1 [(3, 2, 2, 30)] 3 1 40).2 = [(3, 2, 2, 30)] by rw [hg57]] at hS57
  have hI57 : RI 1 [(3, 2, 2, 30)] := by have h9 := (show RI 1 [(3, 2, 2, 30)] by exact hI51).grant (a := 3) (b := 1) (t := 40); rwa [hg57] at h9
  refine S.moveT rfl ?_
  refine S.extract rfl rfl rfl ?_
  refine S.extract rfl rfl rfl ?_
  refine S.extract rfl rfl rfl ?_
  refine S.alloc hS57 ti34 rfl rfl ?_
  intro b13 w13 hS13; clear hS57
  refine S.storeB (i := 0) hS13 rfl ti34 rfl rfl rfl rfl rfl rfl rfl rfl ?_
  intro w2004 hS2004; clear hS13
  refine S.assignT rfl ?_
  refine S.assignT rfl ?_
  refine WS.done ?_
  refine WG.seq ?_
  refine WG.region rfl ?_
  refine S.moveT rfl ?_
  refine S.call ent9 rfl (r_grant ((((((((hS2004.at_ (i := 7) rfl).at_ (i := 7) rfl).at_ (i := 7) rfl).at_ (i := 7) rfl).at_ (i := 7) rfl).at_ (i := 5) rfl).at_ (i := 7) rfl).at_ (i := 7) rfl) (by unfold fits; omega) (by unfold fits; omega) (by unfold fits; omega) (by exact hI51)) rfl ?_
  rintro _ w63 ⟨rfl, hS63⟩
  clear hS2004
  have hg63 : grant 1 [(3, 2, 2, 30)] 4 1 40 = (((0, 0, 0), false, 20), [(3, 2, 2, 30)]) := by decide +kernel
  refine S.as (d := 63) rfl (v' := .tuple #[entV (0, 0, 0), .bool false, .int .i64 20]) (by rw [hg63]; rfl) ?_
  rw [show (grant 1 [(3, 2, 2, 30)] 4 1 40).2 = [(3, 2, 2, 30)] by rw [hg63]] at hS63
  have hI63 : RI 1 [(3, 2, 2, 30)] := by have h9 := (show RI 1 [(3, 2, 2, 30)] by exact hI51).grant (a := 4) (b := 1) (t := 40); rwa [hg63] at h9
  refine S.moveT rfl ?_
  refine S.extract rfl rfl rfl ?_
  refine S.extract rfl rfl rfl ?_
  refine S.extract rfl rfl rfl ?_
  refine S.alloc hS63 ti34 rfl rfl ?_
  intro b16 w16 hS16; clear hS63
  refine S.storeB (i := 0) hS16 rfl ti34 rfl rfl rfl rfl rfl rfl rfl rfl ?_
  intro w2005 hS2005; clear hS16
  refine S.assignT rfl ?_
  refine S.assignT rfl ?_
  refine WS.done ?_
  refine WG.seq ?_
  refine WG.seq ?_
  refine WG.region rfl ?_
  refine S.moveT rfl ?_
  refine S.eqlNil Try.underlying24 rfl rfl rfl ?_
  refine WS.done ?_
  refine WG.condF rfl ?_
  refine WG.skip ?_
  refine WG.seq ?_
  refine WG.region rfl ?_
  refine S.alloc hS2005 ti2 rfl rfl ?_
  intro b19 w19 hS19; clear hS2005
  refine S.storeB (i := 0) hS19 rfl ti2 rfl rfl rfl rfl rfl rfl rfl rfl ?_
  intro w2006 hS2006; clear hS19
  refine WS.done ?_
  refine WG.seq ?_
  refine WG.seq ?_
  refine WG.region rfl ?_
  refine S.moveT rfl ?_
  refine S.call ent18 rfl (r_all hS2006 ) rfl ?_
  rintro _ w70 ⟨R70, bp70, hR70, rfl, hro70, hS70⟩
  clear hS2006
  refine WS.done ?_
  refine WG.block ?_
  refine WG.rangeFuncX (xs := [(3, 2, 2, 30)]) (enc := entA) (Lc := [blk b19 (.cells (#[.int .i64 0]) 2 (0, 0))]) (T := _) (fun pre _ Lk => Lk = [blk b19 (.cells (#[.int .i64 (accR pre)]) 2 (0, 0))]) (fun _ _ => False) (fun r x b => upd (cp (upd (upd r 71 (.int .i64 x.1)) 72 (entV x.2)) 20 71) 21 (.pointer (some ⟨b, 0, none⟩))) (fun x b => [blk b (.cells (#[.int .i64 x.2.1, .int .i64 x.2.2.1, .int .i64 x.2.2.2]) 34 (0, 0))]) ((((((((((hS70.at_ (i := 9) rfl).at_ (i := 9) rfl).at_ (i := 9) rfl).at_ (i := 9) rfl).at_ (i := 9) rfl).at_ (i := 9) rfl).at_ (i := 7) rfl).at_ (i := 9) rfl).at_ (i := 9) rfl).at_ (i := 9) rfl) rfl (fun args w => run_callFunc ent23 args w) (fun _ => rfl) rfl (all_iter hro70 hI51) (Kn.le.refl _) ((perm_erase _ 2 _ rfl).trans (perm_erase _ 2 _ rfl)) (rfl) ?_ ?_ ?_ ?_
  ·
    intro pre x suf Rk Lk T' W hpx hle hI hSa l K hK
    rw [show entA x = #[.int .i64 x.1, entV x.2] from rfl, setp2]
    refine WG.seq ?_
    refine WG.region rfl ?_
    refine S.assignT rfl ?_
    refine WS.done ?_
    refine WG.region rfl ?_
    refine S.alloc hSa ti34 rfl rfl ?_
    intro b21 w21 hS21; clear hSa
    refine S.storeB (i := 0) hS21 rfl ti34 rfl rfl rfl rfl rfl rfl rfl rfl ?_
    intro w2007 hS2007; clear hS21
    refine WS.done ?_
    exact ⟨rfl, hK b21 _ hS2007⟩
  ·
    intro l T' pre x suf Rk Lk b W hpx hle hI hSb
    subst hI
    obtain ⟨rfl, rfl, rfl⟩ := one_of hpx
    obtain ⟨bx, rfl⟩ : ∃ bx, bx = b := ⟨b, rfl⟩
    replace hSb : St W Rk (blk bx (.cells (#[.int .i64 2, .int .i64 2, .int .i64 30]) 34 (0, 0)) :: blk b19 (.cells (#[.int .i64 0]) 2 (0, 0)) :: T') := hSb
    refine WG.block ?_
    refine WG.region rfl ?_
    refine S.loadB (i := 1) hSb rfl Try.underlying2 rfl rfl rfl rfl ?_
    refine S.moveT rfl ?_
    first
      | refine S.mulN rfl rfl rfl (by omega) ?_
      | refine S.mul rfl rfl rfl ?_
    refine S.fieldB Try.underlying34 rfl ti2 rfl rfl rfl rfl ?_
    refine S.loadB (i := 0) hSb rfl Try.underlying2 rfl rfl rfl rfl ?_
    first
      | refine S.addN rfl rfl rfl (by omega) ?_
      | refine S.add rfl rfl rfl ?_
    first
      | refine S.addN rfl rfl rfl (by omega) ?_
      | refine S.add rfl rfl rfl ?_
    refine S.storeB (i := 1) hSb rfl ti2 rfl rfl rfl rfl rfl rfl rfl rfl ?_
    intro w2008 hS2008; clear hSb
    refine WS.done ?_
    exact ⟨rfl, Rk, [blk b19 (.cells (#[.int .i64 302]) 2 (0, 0))], Kn.le.refl _, rfl, hS2008.drop⟩
  ·
    intro D Rk Lk W hle hI hSd
    subst hI
    replace hSd : St W Rk (blk b19 (.cells (#[.int .i64 302]) 2 (0, 0)) :: defC D :: _) := hSd
    refine WG.seq ?_
    refine WG.region rfl ?_
    refine S.moveT rfl ?_
    refine S.call ent15 rfl (r_of (((((((((((hSd.at_ (i := 10) rfl).at_ (i := 10) rfl).at_ (i := 8) rfl).at_ (i := 8) rfl).at_ (i := 8) rfl).at_ (i := 8) rfl).at_ (i := 8) rfl).at_ (i := 8) rfl).at_ (i := 8) rfl).at_ (i := 10) rfl).at_ (i := 10) rfl) (by unfold fits; omega)) rfl ?_
    rintro _ w82 ⟨rfl, hS82⟩
    clear hSd
    refine S.as (d := 82) rfl (v' := .tuple #[entV (1, 1, 10), .bool true]) rfl ?_
    refine S.moveT rfl ?_
    refine S.extract rfl rfl rfl ?_
    refine S.extract rfl rfl rfl ?_
    refine S.alloc hS82 ti34 rfl rfl ?_
    intro b22 w22 hS22; clear hS82
    refine S.storeB (i := 0) hS22 rfl ti34 rfl rfl rfl rfl rfl rfl rfl rfl ?_
    intro w2009 hS2009; clear hS22
    refine S.assignT rfl ?_
    refine WS.done ?_
    refine WG.seq ?_
    refine WG.region rfl ?_
    refine S.moveT rfl ?_
    refine S.buildK (v := .agg #[.int .i64 1, .int .i64 1, .int .i64 0]) rfl (by kernel_rfl) rfl ?_
    refine S.call ent12 rfl (r_set ((((((((((((hS2009.at_ (i := 11) rfl).at_ (i := 11) rfl).at_ (i := 11) rfl).at_ (i := 11) rfl).at_ (i := 11) rfl).at_ (i := 11) rfl).at_ (i := 11) rfl).at_ (i := 11) rfl).at_ (i := 11) rfl).at_ (i := 9) rfl).at_ (i := 11) rfl).at_ (i := 11) rfl) (by unfold fits; omega) (by exact hI37)) rfl ?_
    rintro _ w87 ⟨rfl, hS87⟩
    clear hS2009
    have hs87 : sett 1 [(3, 1, 1, 10)] 3 (1, 1, 0) = (18, [(3, 1, 1, 10)]) := by decide +kernel
    refine S.as (d := 87) rfl (v' := .int .i64 18) (by rw [hs87]; rfl) ?_
    refine S.assignT rfl ?_
    refine WS.done ?_
    refine WG.seq ?_
    refine WG.region rfl ?_
    refine S.moveT rfl ?_
    refine S.eql rfl rfl rfl ?_
    refine S.isTD (d := 89) rfl (by decide) ?_
    refine S.moveT rfl ?_
    refine S.moveT rfl ?_
    refine S.pickT rfl rfl ?_
    refine S.moveT rfl ?_
    refine S.moveT rfl ?_
    refine S.eql rfl rfl rfl ?_
    refine S.isTD (d := 95) rfl (by decide) ?_
    refine S.pickT rfl rfl ?_
    refine S.moveT rfl ?_
    refine S.moveT rfl ?_
    refine S.not rfl rfl ?_
    refine S.pickT rfl rfl ?_
    refine S.moveT rfl ?_
    refine S.loadBA (i := 11) hS87 rfl Try.underlying34 rfl ti34 rfl rfl rfl rfl ?_
    refine S.loadBA (i := 10) hS87 rfl Try.underlying34 rfl ti34 rfl rfl rfl rfl ?_
    refine S.eqlS rfl rfl (by kernel_rfl) (Eq1.struct Try.underlying34 (by kernel_rfl) (EqF.cons (by decide) (Part1.one Try.underlying2 rfl rfl) (Part1.one Try.underlying2 rfl rfl) (Eq1.int Try.underlying2) (EqF.cons (by decide) (Part1.one Try.underlying2 rfl rfl) (Part1.one Try.underlying2 rfl rfl) (Eq1.int Try.underlying2) (EqF.one (by decide) (Part1.one Try.underlying2 rfl rfl) (Part1.one Try.underlying2 rfl rfl) (Eq1.int Try.underlying2))))) rfl ?_
    refine S.isTD (d := 104) rfl (by exact ⟨rfl, rfl, rfl⟩) ?_
    refine S.pickT rfl rfl ?_
    refine S.moveT rfl ?_
    refine S.loadBA (i := 11) hS87 rfl Try.underlying34 rfl ti34 rfl rfl rfl rfl ?_
    refine S.buildStruct [.int _ _, .int _ _, .int _ _] [(0, 1), (1, 1), (2, 1)] Try.underlying34 ti34 rfl (by kernel_rfl) rfl rfl rfl rfl rfl rfl ?_
    refine S.eqlS rfl rfl (by kernel_rfl) (Eq1.struct Try.underlying34 (by kernel_rfl) (EqF.cons (by decide) (Part1.one Try.underlying2 rfl rfl) (Part1.one Try.underlying2 rfl rfl) (Eq1.int Try.underlying2) (EqF.cons (by decide) (Part1.one Try.underlying2 rfl rfl) (Part1.one Try.underlying2 rfl rfl) (Eq1.int Try.underlying2) (EqF.one (by decide) (Part1.one Try.underlying2 rfl rfl) (Part1.one Try.underlying2 rfl rfl) (Eq1.int Try.underlying2))))) rfl ?_
    refine S.isTD (d := 109) rfl (by exact ⟨rfl, rfl, rfl⟩) ?_
    refine S.pickT rfl rfl ?_
    refine S.moveT rfl ?_
    refine S.moveT rfl ?_
    refine S.pickT rfl rfl ?_
    refine S.moveT rfl ?_
    refine S.moveT rfl ?_
    refine S.eql rfl rfl rfl ?_
    refine S.isTD (d := 116) rfl (by decide) ?_
    refine S.pickT rfl rfl ?_
    refine S.moveT rfl ?_
    refine S.loadBA (i := 9) hS87 rfl Try.underlying34 rfl ti34 rfl rfl rfl rfl ?_
    refine S.buildStruct [.int _ _, .int _ _, .int _ _] [(0, 1), (1, 1), (2, 1)] Try.underlying34 ti34 rfl (by kernel_rfl) rfl rfl rfl rfl rfl rfl ?_
    refine S.eqlS rfl rfl (by kernel_rfl) (Eq1.struct Try.underlying34 (by kernel_rfl) (EqF.cons (by decide) (Part1.one Try.underlying2 rfl rfl) (Part1.one Try.underlying2 rfl rfl) (Eq1.int Try.underlying2) (EqF.cons (by decide) (Part1.one Try.underlying2 rfl rfl) (Part1.one Try.underlying2 rfl rfl) (Eq1.int Try.underlying2) (EqF.one (by decide) (Part1.one Try.underlying2 rfl rfl) (Part1.one Try.underlying2 rfl rfl) (Eq1.int Try.underlying2))))) rfl ?_
    refine S.isTD (d := 121) rfl (by exact ⟨rfl, rfl, rfl⟩) ?_
    refine S.pickT rfl rfl ?_
    refine S.moveT rfl ?_
    refine S.moveT rfl ?_
    refine S.eql rfl rfl rfl ?_
    refine S.isTD (d := 125) rfl (by decide) ?_
    refine S.pickT rfl rfl ?_
    refine S.moveT rfl ?_
    refine S.moveT rfl ?_
    refine S.eql rfl rfl rfl ?_
    refine S.isTD (d := 129) rfl (by decide) ?_
    refine S.pickT rfl rfl ?_
    refine S.moveT rfl ?_
    refine S.loadB (i := 3) hS87 rfl Try.underlying2 rfl rfl rfl rfl ?_
    refine S.eql rfl rfl rfl ?_
    refine S.isTD (d := 133) rfl (by decide) ?_
    refine S.pickT rfl rfl ?_
    refine S.moveT rfl ?_
    refine S.moveT rfl ?_
    refine S.pickT rfl rfl ?_
    refine S.moveT rfl ?_
    refine S.loadBA (i := 2) hS87 rfl Try.underlying34 rfl ti34 rfl rfl rfl rfl ?_
    refine S.loadBA (i := 11) hS87 rfl Try.underlying34 rfl ti34 rfl rfl rfl rfl ?_
    refine S.eqlS rfl rfl (by kernel_rfl) (Eq1.struct Try.underlying34 (by kernel_rfl) (EqF.cons (by decide) (Part1.one Try.underlying2 rfl rfl) (Part1.one Try.underlying2 rfl rfl) (Eq1.int Try.underlying2) (EqF.cons (by decide) (Part1.one Try.underlying2 rfl rfl) (Part1.one Try.underlying2 rfl rfl) (Eq1.int Try.underlying2) (EqF.one (by decide) (Part1.one Try.underlying2 rfl rfl) (Part1.one Try.underlying2 rfl rfl) (Eq1.int Try.underlying2))))) rfl ?_
    refine S.isTD (d := 141) rfl (by exact ⟨rfl, rfl, rfl⟩) ?_
    refine S.pickT rfl rfl ?_
    refine S.moveT rfl ?_
    refine S.moveT rfl ?_
    refine S.eql rfl rfl rfl ?_
    refine S.isTD (d := 145) rfl (by decide) ?_
    refine S.pickT rfl rfl ?_
    refine S.moveT rfl ?_
    refine S.moveT rfl ?_
    refine S.call ent17 rfl (r_is ((((((((((((hS87.at_ (i := 11) rfl).at_ (i := 11) rfl).at_ (i := 11) rfl).at_ (i := 11) rfl).at_ (i := 11) rfl).at_ (i := 9) rfl).at_ (i := 9) rfl).at_ (i := 9) rfl).at_ (i := 9) rfl).at_ (i := 9) rfl).at_ (i := 11) rfl).at_ (i := 11) rfl) (by unfold fits; omega)) rfl ?_
    rintro _ w149 ⟨rfl, hS149⟩
    clear hS87
    refine S.isTD (d := 149) rfl (by decide) ?_
    refine S.pickT rfl rfl ?_
    refine S.moveT rfl ?_
    refine S.moveT rfl ?_
    refine S.call ent17 rfl (r_is hS149 (by unfold fits; omega)) rfl ?_
    rintro _ w153 ⟨rfl, hS153⟩
    clear hS149
    refine S.isFD (d := 153) rfl (by decide) ?_
    refine S.not rfl rfl ?_
    refine S.pickT rfl rfl ?_
    refine S.assignT rfl ?_
    refine WS.done ?_
    refine WG.ret (retM (A := []) (hS153.at_ (i := 6) rfl) (fun wz hSz => ?_))
    refine ret1 rfl rfl ?_
    exact ⟨rfl, (hSz.drop.drop.drop.drop.drop.drop.drop.drop.drop.drop.drop).weak (hR70.trans hle)⟩
  ·
    intro D Rk Lk W hle hI _
    exact hI.elim


end Go.Proofs.Ytiffedgmageiaaa.B

import Derived.Test.YtmmdbincgianaaaWalkD
namespace Go.Proofs.Ytmmdbincgianaaa.B
open Go.Proofs Go.RowKit
set_option linter.unusedVariables false
set_option linter.unusedSimpArgs false
def acc (ps : List (Nat × Int)) : Int := (ps.map (fun p => (p.1 : Int) * p.2)).sum
theorem acc_snoc {ps : List (Nat × Int)} {p : Nat × Int} : acc (ps ++ [p]) = acc ps + (p.1 : Int) * p.2 := by
  unfold acc; rw [List.map_append, List.sum_append]; simp
theorem three_of {pre suf : List (Nat × Int)} {x : Nat × Int} (h : pre ++ x :: suf = [(1, 1), (2, 2), (4, 1)]) : (0 ≤ acc pre ∧ acc pre ≤ 9) ∧ 0 ≤ (x.1 : Int) * x.2 ∧ (x.1 : Int) * x.2 ≤ 9 := by
  rcases pre with _ | ⟨a, _ | ⟨b, _ | ⟨c, pre⟩⟩⟩
  · simp only [List.nil_append, List.cons.injEq] at h
    obtain ⟨rfl, _⟩ := h
    decide
  · simp only [List.cons_append, List.nil_append, List.cons.injEq] at h
    obtain ⟨rfl, rfl, _⟩ := h
    decide
  · simp only [List.cons_append, List.nil_append, List.cons.injEq] at h
    obtain ⟨rfl, rfl, rfl, _⟩ := h
    decide
  · have := congrArg List.length h
    simp at this
set_option maxRecDepth 100000 in
set_option maxHeartbeats 4000000 in
theorem l5_alive {w : World} {R : Kn} {L : List HP}  (hS : St w R (L))  :
    Fn Try.prog 8 #[] w (fun v w' => v = .bool true ∧ St w' R L) := by
  refine Fn.introG (n := 125) Try.func8 rfl rfl rfl ?_
  refine WG.seq ?_
  refine WG.region rfl ?_
  refine S.assignC rfl ?_
  refine WS.done ?_
  refine WG.seq ?_
  refine WG.region rfl ?_
  first
    | refine S.buildRow (vs := [.int _ _, .int _ _, .int _ _, .int _ _]) hS Try.underlying22 ti2 rfl rfl rfl rfl rfl rfl rfl ?_
    | refine S.buildRow hS Try.underlying22 ti2 rfl rfl rfl rfl rfl rfl rfl ?_
  intro b16 w16 hS16; clear hS
  obtain ⟨R16, hR16, hro16, hSf16⟩ := hS16.keepRow (enc := encI .i64) (n := 1) [0, 1, 1, 5] rfl (fun _ _ => rfl)
  refine S.call ent9 rfl (h_of hSf16 (by exact hro16) (by simp [fits]) (by simp)) rfl ?_
  rintro _ w17 ⟨rfl, hS17⟩
  clear hSf16
  refine S.alloc (cs := aI (List.replicate 65 0)) hS17 ti26 rfl rfl ?_
  intro b1 w1 hS1; clear hS17
  refine S.storeArr (i := 0) hS1 rfl ti26 (by first | assumption | exact rfl | exact tab_len | exact ofL_len | exact mrg_len | exact mixL_len | exact halfL_len | (rw [List.length_set]; first | assumption | exact ofL_len | exact mixL_len | exact halfL_len)) (by first | assumption | exact rfl | exact tab_len | exact ofL_len | exact mrg_len | exact mixL_len | exact halfL_len | (rw [List.length_set]; first | assumption | exact ofL_len | exact mixL_len | exact halfL_len)) rfl rfl rfl ?_
  intro w2001 hS2001; clear hS1
  refine WS.done ?_
  refine WG.seq ?_
  refine WG.region rfl ?_
  refine S.call ent25 rfl (h_bounds hS2001 (by unfold fits; omega)) rfl ?_
  rintro _ w19 ⟨p19, q19, rfl, hB19, hS19⟩
  clear hS2001
  obtain ⟨rfl, rfl⟩ : p19 = 4 ∧ q19 = 7 := by
    rcases hB19 with h | ⟨_, h1, _, _, h2⟩
    · exact absurd (by decide) h.1
    · have e1 := h2 3 (by unfold fits; omega)
      have e2 := h2 4 (by unfold fits; omega)
      have e3 := h2 7 (by unfold fits; omega)
      have e4 := h2 8 (by unfold fits; omega)
      rw [show bkt 3 = 3 by decide] at e1
      rw [show bkt 4 = 4 by decide] at e2
      rw [show bkt 7 = 4 by decide] at e3
      rw [show bkt 8 = 5 by decide] at e4
      omega
  refine S.moveT rfl ?_
  refine S.extract rfl rfl rfl ?_
  refine S.extract rfl rfl rfl ?_
  refine S.isTD (d := 21) rfl (by decide) ?_
  refine S.alloc hS19 ti60 rfl rfl ?_
  intro b2 w2 hS2; clear hS19
  refine S.storeB (i := 0) hS2 rfl ti60 rfl rfl rfl rfl rfl rfl rfl rfl ?_
  intro w2002 hS2002; clear hS2
  refine S.assignT rfl ?_
  refine WS.done ?_
  refine WG.seq ?_
  refine WG.region rfl ?_
  refine S.call ent25 rfl (h_bounds hS2002 (by unfold fits; omega)) rfl ?_
  rintro _ w23 ⟨p23, q23, rfl, hB23, hS23⟩
  clear hS2002
  refine S.moveT rfl ?_
  refine S.extract rfl rfl rfl ?_
  refine S.extract rfl rfl rfl ?_
  refine S.isFD (d := 25) rfl (by decide) ?_
  refine S.alloc hS23 ti60 rfl rfl ?_
  intro b4 w4 hS4; clear hS23
  refine S.storeB (i := 0) hS4 rfl ti60 rfl rfl rfl rfl rfl rfl rfl rfl ?_
  intro w2003 hS2003; clear hS4
  refine S.assignT rfl ?_
  refine WS.done ?_
  refine WG.seq ?_
  refine WG.region rfl ?_
  refine S.loadArr (i := 2) hS2003 rfl Try.underlying26 ti26 (by first | assumption | exact rfl | exact tab_len | exact ofL_len | exact mrg_len | exact mixL_len | exact halfL_len | (rw [List.length_set]; first | assumption | exact ofL_len | exact mixL_len | exact halfL_len)) rfl rfl ?_
  refine S.loadArr (i := 2) hS2003 rfl Try.underlying26 ti26 (by first | assumption | exact rfl | exact tab_len | exact ofL_len | exact mrg_len | exact mixL_len | exact halfL_len | (rw [List.length_set]; first | assumption | exact ofL_len | exact mixL_len | exact halfL_len)) rfl rfl ?_
  refine S.buildRowP (n := 65) (vs := [aV _, aV _]) hS2003 Try.underlying29 ti26 rfl rfl rfl rfl rfl ?_ rfl ?_
  · intro v hv; simp only [List.mem_cons, List.not_mem_nil, or_false] at hv; first | (rcases hv with rfl | rfl; all_goals (exact (encA_len _).trans (by first | assumption | exact rfl | exact tab_len | exact ofL_len | exact mrg_len | exact mixL_len | exact halfL_len | (rw [List.length_set]; first | assumption | exact ofL_len | exact mixL_len | exact halfL_len)))) | (subst hv; exact (encA_len _).trans (by first | assumption | exact rfl | exact tab_len | exact ofL_len | exact mrg_len | exact mixL_len | exact halfL_len | (rw [List.length_set]; first | assumption | exact ofL_len | exact mixL_len | exact halfL_len)))
  intro b29 w29 hS29; clear hS2003
  obtain ⟨R29, hR29, hro29, hSf29⟩ := hS29.keepRow (enc := encA) (n := 65) [ofL [0, 1, 1, 5], ofL [0, 1, 1, 5]] rfl (by intro x hx; rw [encA_len]; simp only [List.mem_cons, List.not_mem_nil, or_false] at hx; first | (rcases hx with rfl | rfl; all_goals (first | assumption | exact rfl | exact tab_len | exact ofL_len | exact mrg_len | exact mixL_len | exact halfL_len)) | (subst hx; first | assumption | exact rfl | exact tab_len | exact ofL_len | exact mrg_len | exact mixL_len | exact halfL_len))
  replace hro16 := hro16.mono hR29
  refine S.call ent11 rfl (h_merge hSf29 (by exact hro29) (by exact rows_two (ofL_fits (by simp)) (ofL_fits (by simp))) (by simp)) rfl ?_
  rintro _ w30 ⟨rfl, hS30⟩
  clear hSf29
  refine S.as (d := 30) rfl (v' := .tuple #[aV (ofL [0, 1, 1, 5, 0, 1, 1, 5]), .int .i64 0]) (by rw [mrg_two (by simp)]; rfl) ?_
  refine S.moveT rfl ?_
  refine S.extract rfl rfl rfl ?_
  refine S.extract rfl rfl rfl ?_
  refine S.alloc (cs := aI (List.replicate 65 0)) hS30 ti26 rfl rfl ?_
  intro b6 w6 hS6; clear hS30
  refine S.storeArr (i := 0) hS6 rfl ti26 (by first | assumption | exact rfl | exact tab_len | exact ofL_len | exact mrg_len | exact mixL_len | exact halfL_len | (rw [List.length_set]; first | assumption | exact ofL_len | exact mixL_len | exact halfL_len)) (by first | assumption | exact rfl | exact tab_len | exact ofL_len | exact mrg_len | exact mixL_len | exact halfL_len | (rw [List.length_set]; first | assumption | exact ofL_len | exact mixL_len | exact halfL_len)) rfl rfl rfl ?_
  intro w2004 hS2004; clear hS6
  refine S.assignT rfl ?_
  refine WS.done ?_
  refine WG.seq ?_
  refine WG.region rfl ?_
  refine S.loadArr (i := 3) hS2004 rfl Try.underlying26 ti26 (by first | assumption | exact rfl | exact tab_len | exact ofL_len | exact mrg_len | exact mixL_len | exact halfL_len | (rw [List.length_set]; first | assumption | exact ofL_len | exact mixL_len | exact halfL_len)) rfl rfl ?_
  refine S.call ent14 rfl (h_add hS2004 (by exact ofL_len) (by exact ofL_fits (by simp)) (by unfold fits; omega)) rfl ?_
  rintro _ w35 ⟨rfl, hS35⟩
  clear hS2004
  refine S.as (d := 35) rfl (v' := .tuple #[aV (ofL [0, 1, 1, 5, -9]), .int .i64 0]) (by rw [mrg_two (by simp)]; rfl) ?_
  refine S.moveT rfl ?_
  refine S.extract rfl rfl rfl ?_
  refine S.extract rfl rfl rfl ?_
  refine S.alloc (cs := aI (List.replicate 65 0)) hS35 ti26 rfl rfl ?_
  intro b8 w8 hS8; clear hS35
  refine S.storeArr (i := 0) hS8 rfl ti26 (by first | assumption | exact rfl | exact tab_len | exact ofL_len | exact mrg_len | exact mixL_len | exact halfL_len | (rw [List.length_set]; first | assumption | exact ofL_len | exact mixL_len | exact halfL_len)) (by first | assumption | exact rfl | exact tab_len | exact ofL_len | exact mrg_len | exact mixL_len | exact halfL_len | (rw [List.length_set]; first | assumption | exact ofL_len | exact mixL_len | exact halfL_len)) rfl rfl rfl ?_
  intro w2005 hS2005; clear hS8
  refine S.assignT rfl ?_
  refine WS.done ?_
  refine WG.seq ?_
  refine WG.of (WR.regionW (fun j => false) 8 rfl mixed hS2005 ?_)
  intro w6006 hS6006; clear hS2005; have hC := hS6006
  refine WA.take (fuel := 7) 0 rfl (by kernel_rfl) (by kernel_rfl) (by kernel_rfl) (by kernel_rfl) rfl rfl hC ?_
  refine Q.loadArr (i := 4) rfl Try.underlying26 ti26 (by first | assumption | exact rfl | exact tab_len | exact ofL_len | exact mrg_len | exact mixL_len | exact halfL_len | (rw [List.length_set]; first | assumption | exact ofL_len | exact mixL_len | exact halfL_len)) rfl rfl ?_
  refine WQ.done ?_
  refine WA.one (fuel := 6) 1 rfl (by kernel_rfl) rfl ?_
  refine S.call ent22 rfl (w_of hS6006 (by unfold fits; omega)) rfl ?_
  rintro _ w40 ⟨rfl, hS40⟩
  clear hS6006
  refine WS.done ⟨fun _ => hS40, ?_⟩
  replace hC := hS40
  refine WA.one (fuel := 5) 2 rfl (by kernel_rfl) rfl ?_
  refine S.call ent19 rfl (h_rank hS40 (by exact ofL_len) (by exact ofL_fits (by simp)) (by exact w_fits _) (by exact (w_range _).2)) rfl ?_
  rintro _ w41 ⟨x41, rfl, hK41, hS41⟩
  clear hS40
  obtain rfl : x41 = 2 := rkP.same hK41 (.inr (.inr ⟨2, ofL_rgt, by decide, by decide, by decide, by decide, rfl⟩))
  refine WS.done ⟨fun _ => hS41, ?_⟩
  replace hC := hS41
  refine WA.take (fuel := 4) 3 rfl (by kernel_rfl) (by kernel_rfl) (by kernel_rfl) (by kernel_rfl) rfl rfl hC ?_
  refine Q.moveT rfl ?_
  refine WQ.done ?_
  refine WA.take (fuel := 3) 4 rfl (by kernel_rfl) (by kernel_rfl) (by kernel_rfl) (by kernel_rfl) rfl rfl hC ?_
  refine Q.extract rfl rfl rfl ?_
  refine WQ.done ?_
  refine WA.take (fuel := 2) 5 rfl (by kernel_rfl) (by kernel_rfl) (by kernel_rfl) (by kernel_rfl) rfl rfl hC ?_
  refine Q.extract rfl rfl rfl ?_
  refine Q.isTD (d := 43) rfl (by decide) ?_
  refine WQ.done ?_
  refine WA.take (fuel := 1) 6 rfl (by kernel_rfl) (by kernel_rfl) (by kernel_rfl) (by kernel_rfl) rfl rfl hC ?_
  refine Q.assignT rfl ?_
  refine WQ.done ?_
  refine WA.take (fuel := 0) 7 rfl (by kernel_rfl) (by kernel_rfl) (by kernel_rfl) (by kernel_rfl) rfl rfl hC ?_
  refine Q.assignT rfl ?_
  refine WQ.done ?_
  refine WA.done (by kernel_rfl) ?_
  clear hC
  refine WG.seq ?_
  refine WG.region rfl ?_
  refine S.alloc hS41 ti3 rfl rfl ?_
  intro b12 w12 hS12; clear hS41
  refine S.storeB (i := 0) hS12 rfl ti3 rfl rfl rfl rfl rfl rfl rfl rfl ?_
  intro w2007 hS2007; clear hS12
  refine WS.done ?_
  refine WG.seq ?_
  refine WG.region rfl ?_
  refine S.loadArr (i := 5) hS2007 rfl Try.underlying26 ti26 (by first | assumption | exact rfl | exact tab_len | exact ofL_len | exact mrg_len | exact mixL_len | exact halfL_len | (rw [List.length_set]; first | assumption | exact ofL_len | exact mixL_len | exact halfL_len)) rfl rfl ?_
  refine S.call ent21 rfl (h_full hS2007 (by exact ofL_len)) rfl ?_
  rintro _ w45 ⟨R45, bf45, hR45, rfl, hro45, hS45⟩
  clear hS2007
  have hit := full_iter hro45 ofL_len
  rw [show fullL (ofL [0, 1, 1, 5]) = [(1, 1), (2, 2), (4, 1)] by decide] at hit
  replace hro16 := hro16.mono hR45
  replace hro29 := hro29.mono hR45
  refine S.assignT rfl ?_
  refine WS.done ?_
  refine WG.seq ?_
  refine WG.seq ?_
  refine WG.region rfl ?_
  refine S.moveT rfl ?_
  refine S.eqlNilF (run_equal_func_nil Try.underlying52) rfl rfl rfl ?_
  refine WS.done ?_
  refine WG.condF rfl ?_
  refine WG.skip ?_
  refine WG.seq ?_
  refine WG.seq ?_
  refine WG.region rfl ?_
  refine S.moveT rfl ?_
  refine WS.done ?_
  refine WG.block ?_
  refine WG.rangeFunc (xs := [(1, 1), (2, 2), (4, 1)]) (enc := pairE) (Lc := [blk b12 (.cells #[.int .i64 (0)] 3 (0, 0))]) (T := _) (fun pre _ Lk => Lk = [blk b12 (.cells #[.int .i64 (acc pre)] 3 (0, 0))]) (fun _ _ => False) (fun r x => cp (cp (upd (upd r 49 (.int .i64 (x.1 : Int))) 50 (.int .i64 x.2)) 14 49) 15 50) hS45 rfl (fun args w => run_callFunc ent45 args w) (fun _ => rfl) rfl hit rfl ?_ ?_ ?_ ?_
  ·
    intro l x W K hK
    rw [show pairE x = #[.int .i64 (x.1 : Int), .int .i64 x.2] from rfl, setp2]
    refine WG.seq ?_
    refine WG.region rfl ?_
    refine S.assignT rfl ?_
    refine WS.done ?_
    refine WG.region rfl ?_
    refine S.assignT rfl ?_
    refine WS.done ?_
    exact ⟨rfl, hK⟩
  ·
    intro l T' pre x suf Rk Lk W hpx hle hI hSb
    subst hI
    replace hSb : St W Rk (blk b12 (.cells #[.int .i64 (acc pre)] 3 (0, 0)) :: T') := hSb
    have hb3 := three_of hpx
    refine WG.block ?_
    refine WG.region rfl ?_
    refine S.loadB (i := 0) hSb rfl Try.underlying3 rfl rfl rfl rfl ?_
    refine S.moveT rfl ?_
    refine S.moveT rfl ?_
    first
      | refine S.mulN rfl rfl rfl (by omega) ?_
      | refine S.mul rfl rfl rfl ?_
    first
      | refine S.addN rfl rfl rfl (by omega) ?_
      | refine S.add rfl rfl rfl ?_
    refine S.storeB (i := 0) hSb rfl ti3 rfl rfl rfl rfl rfl rfl rfl rfl ?_
    intro w2008 hS2008; clear hSb
    refine WS.done ?_
    exact ⟨rfl, Rk, [blk b12 (.cells #[.int .i64 (acc (pre ++ [x]))] 3 (0, 0))], hle, rfl, by rw [acc_snoc]; exact hS2008⟩
  ·
    intro D Rk Lk W hle hI hSd
    subst hI
    refine WG.seq ?_
    refine WG.region rfl ?_
    refine S.moveT rfl ?_
    refine S.moveT rfl ?_
    refine S.moveT rfl ?_
    refine S.not rfl rfl ?_
    refine S.pickT rfl rfl ?_
    refine S.moveT rfl ?_
    refine S.loadBA (i := 5) hSd rfl Try.underlying60 rfl ti60 rfl rfl rfl rfl ?_
    refine S.buildStruct [.int _ _, .int _ _] [(0, 1), (1, 1)] Try.underlying60 ti60 rfl (by kernel_rfl) rfl rfl rfl rfl rfl rfl ?_
    refine S.eqlS rfl rfl (by kernel_rfl) (Eq1.struct Try.underlying60 (by kernel_rfl) (EqF.cons (by decide) (Part1.one Try.underlying2 rfl rfl) (Part1.one Try.underlying2 rfl rfl) (Eq1.int Try.underlying2) (EqF.one (by decide) (Part1.one Try.underlying2 rfl rfl) (Part1.one Try.underlying2 rfl rfl) (Eq1.int Try.underlying2)))) rfl ?_
    refine S.isTD (d := 64) rfl (by exact ⟨rfl, rfl⟩) ?_
    refine S.pickT rfl rfl ?_
    refine S.moveT rfl ?_
    refine S.ixArr Try.underlying26 ti2 rfl rfl (by omega) rfl ?_
    refine S.loadAtG (m := 65) (i := 6) hSd rfl Try.underlying2 rfl rfl (by first | assumption | exact rfl | exact tab_len | exact ofL_len | exact mrg_len | exact mixL_len | exact halfL_len | (rw [List.length_set]; first | assumption | exact ofL_len | exact mixL_len | exact halfL_len)) (by omega) rfl ?_
    first | refine S.as (d := 68) rfl (congrArg (Value.int .i64) gd_nat) ?_ | skip
    refine S.eql rfl rfl rfl ?_
    refine S.isTD (d := 69) rfl (by decide) ?_
    refine S.pickT rfl rfl ?_
    refine S.moveT rfl ?_
    refine S.ixArr Try.underlying26 ti2 rfl rfl (by omega) rfl ?_
    refine S.loadAtG (m := 65) (i := 6) hSd rfl Try.underlying2 rfl rfl (by first | assumption | exact rfl | exact tab_len | exact ofL_len | exact mrg_len | exact mixL_len | exact halfL_len | (rw [List.length_set]; first | assumption | exact ofL_len | exact mixL_len | exact halfL_len)) (by omega) rfl ?_
    first | refine S.as (d := 73) rfl (congrArg (Value.int .i64) gd_nat) ?_ | skip
    refine S.eql rfl rfl rfl ?_
    refine S.isTD (d := 74) rfl (by decide) ?_
    refine S.pickT rfl rfl ?_
    refine S.moveT rfl ?_
    refine S.ixArr Try.underlying26 ti2 rfl rfl (by omega) rfl ?_
    refine S.loadAtG (m := 65) (i := 6) hSd rfl Try.underlying2 rfl rfl (by first | assumption | exact rfl | exact tab_len | exact ofL_len | exact mrg_len | exact mixL_len | exact halfL_len | (rw [List.length_set]; first | assumption | exact ofL_len | exact mixL_len | exact halfL_len)) (by omega) rfl ?_
    first | refine S.as (d := 78) rfl (congrArg (Value.int .i64) gd_nat) ?_ | skip
    refine S.eql rfl rfl rfl ?_
    refine S.isTD (d := 79) rfl (by decide) ?_
    refine S.pickT rfl rfl ?_
    refine S.moveT rfl ?_
    refine S.moveT rfl ?_
    refine S.eql rfl rfl rfl ?_
    refine S.isTD (d := 83) rfl (by decide) ?_
    refine S.pickT rfl rfl ?_
    refine S.moveT rfl ?_
    refine S.ixArr Try.underlying26 ti2 rfl rfl (by omega) rfl ?_
    refine S.loadAtG (m := 65) (i := 3) hSd rfl Try.underlying2 rfl rfl (by first | assumption | exact rfl | exact tab_len | exact ofL_len | exact mrg_len | exact mixL_len | exact halfL_len | (rw [List.length_set]; first | assumption | exact ofL_len | exact mixL_len | exact halfL_len)) (by omega) rfl ?_
    first | refine S.as (d := 87) rfl (congrArg (Value.int .i64) gd_nat) ?_ | skip
    refine S.eql rfl rfl rfl ?_
    refine S.isTD (d := 88) rfl (by decide) ?_
    refine S.pickT rfl rfl ?_
    refine S.moveT rfl ?_
    refine S.moveT rfl ?_
    refine S.eql rfl rfl rfl ?_
    refine S.isTD (d := 92) rfl (by decide) ?_
    refine S.pickT rfl rfl ?_
    refine S.moveT rfl ?_
    refine S.ixArr Try.underlying26 ti2 rfl rfl (by omega) rfl ?_
    refine S.loadAtG (m := 65) (i := 2) hSd rfl Try.underlying2 rfl rfl (by first | assumption | exact rfl | exact tab_len | exact ofL_len | exact mrg_len | exact mixL_len | exact halfL_len | (rw [List.length_set]; first | assumption | exact ofL_len | exact mixL_len | exact halfL_len)) (by omega) rfl ?_
    first | refine S.as (d := 96) rfl (congrArg (Value.int .i64) gd_nat) ?_ | skip
    refine S.eql rfl rfl rfl ?_
    refine S.isTD (d := 97) rfl (by decide) ?_
    refine S.pickT rfl rfl ?_
    refine S.moveT rfl ?_
    refine S.ixArr Try.underlying26 ti2 rfl rfl (by omega) rfl ?_
    refine S.loadAtG (m := 65) (i := 6) hSd rfl Try.underlying2 rfl rfl (by first | assumption | exact rfl | exact tab_len | exact ofL_len | exact mrg_len | exact mixL_len | exact halfL_len | (rw [List.length_set]; first | assumption | exact ofL_len | exact mixL_len | exact halfL_len)) (by omega) rfl ?_
    first | refine S.as (d := 101) rfl (congrArg (Value.int .i64) gd_nat) ?_ | skip
    refine S.eql rfl rfl rfl ?_
    refine S.isTD (d := 102) rfl (by decide) ?_
    refine S.pickT rfl rfl ?_
    refine S.moveT rfl ?_
    refine S.moveT rfl ?_
    refine S.eql rfl rfl rfl ?_
    refine S.isTD (d := 106) rfl (by decide) ?_
    refine S.pickT rfl rfl ?_
    refine S.moveT rfl ?_
    refine S.moveT rfl ?_
    refine S.pickT rfl rfl ?_
    refine S.moveT rfl ?_
    refine S.loadB (i := 0) hSd rfl Try.underlying3 rfl rfl rfl rfl ?_
    refine S.eql rfl rfl rfl ?_
    refine S.isTD (d := 113) rfl (by decide) ?_
    refine S.pickT rfl rfl ?_
    refine S.moveT rfl ?_
    refine S.loadArr (i := 6) hSd rfl Try.underlying26 ti26 (by first | assumption | exact rfl | exact tab_len | exact ofL_len | exact mrg_len | exact mixL_len | exact halfL_len | (rw [List.length_set]; first | assumption | exact ofL_len | exact mixL_len | exact halfL_len)) rfl rfl ?_
    refine S.call ent18 rfl (h_total hSd (by exact ofL_len) (by exact ofL_fits (by simp))) rfl ?_
    rintro _ w117 ⟨rfl, hS117⟩
    clear hSd
    refine S.call ent22 rfl (w_of hS117 (by unfold fits; omega)) rfl ?_
    rintro _ w118 ⟨rfl, hS118⟩
    clear hS117
    refine S.eqlS rfl rfl (by kernel_rfl) (Eq1.struct Try.underlying40 (by kernel_rfl) (EqF.cons (by decide) (Part1.one Try.underlying2 rfl rfl) (Part1.one Try.underlying2 rfl rfl) (Eq1.int Try.underlying2) (EqF.one (by decide) (Part1.one Try.underlying38 rfl rfl) (Part1.one Try.underlying38 rfl rfl) (Eq1.int Try.underlying38)))) rfl ?_
    refine S.isTD (d := 119) rfl (by rw [show (ofL [0, 1, 1, 5]).sum = 4 by decide]; exact ⟨rfl, rfl⟩) ?_
    refine S.pickT rfl rfl ?_
    refine S.moveT rfl ?_
    refine S.call ent23 rfl (h_bucket hS118 (by unfold fits; omega)) rfl ?_
    rintro _ w122 ⟨rfl, hS122⟩
    clear hS118
    refine S.eql rfl rfl rfl ?_
    refine S.isTD (d := 123) rfl (by decide) ?_
    refine S.pickT rfl rfl ?_
    refine S.assignT rfl ?_
    refine WS.done ?_
    refine WG.ret (retM (A := []) (hS122.at_ (i := 1) rfl) (fun wz hSz => ?_))
    refine ret1 rfl rfl ?_
    exact ⟨rfl, hSz.drop.drop.drop.drop.drop.drop.weak (hR16.trans (hR29.trans (hR45.trans hle)))⟩
  ·
    intro D Rk Lk W hle hI _
    exact hI.elim

set_option maxRecDepth 100000 in
set_option maxHeartbeats 4000000 in
theorem law_HistBuckets {w : World} {R : Kn} {L : List HP}  (hS : St w R (L)) {a k : Int} (ha : fits a) (hk : fits k) :
    Fn Try.prog 7 #[.int .i64 a, .int .i64 k] w (fun v w' => v = .bool true ∧ St w' R L) := by
  have hfa := id ha
  have hfk := id hk
  unfold fits at hfa hfk
  refine Fn.intro (n := 61) Try.func7 rfl rfl rfl ?_
  refine WR.seq ?_
  refine WR.region rfl ?_
  refine S.assignC rfl ?_
  refine WS.done ?_
  refine WR.seq ?_
  refine WR.seq ?_
  refine WR.region rfl ?_
  refine S.call ent8 rfl (l5_alive hS ) rfl ?_
  rintro _ w7 ⟨rfl, hS7⟩
  clear hS
  refine S.not rfl rfl ?_
  refine WS.done ?_
  refine WR.condF rfl ?_
  refine WR.skip ?_
  refine WR.seq ?_
  refine WR.seq ?_
  refine WR.region rfl ?_
  refine S.moveT rfl ?_
  refine S.call ent23 rfl (h_bucket hS7 (by assumption)) rfl ?_
  rintro _ w10 ⟨rfl, hS10⟩
  clear hS7
  refine S.moveT rfl ?_
  refine S.call ent24 rfl (h5_bucket hS10 (by assumption)) rfl ?_
  rintro _ w12 ⟨rfl, hS12⟩
  clear hS10
  refine S.neq rfl rfl rfl ?_
  refine S.isFD (d := 13) rfl (by simp) ?_
  refine WS.done ?_
  refine WR.condF rfl ?_
  refine WR.skip ?_
  refine WR.seq ?_
  refine WR.region rfl ?_
  refine S.moveT rfl ?_
  refine S.call ent25 rfl (h_bounds hS12 (by exact hk)) rfl ?_
  rintro _ w16 ⟨p16, q16, rfl, hB16, hS16⟩
  clear hS12
  refine S.moveT rfl ?_
  refine S.extract rfl rfl rfl ?_
  refine S.extract rfl rfl rfl ?_
  refine S.alloc hS16 ti60 rfl rfl ?_
  intro b5 w5 hS5; clear hS16
  refine S.storeB (i := 0) hS5 rfl ti60 rfl rfl rfl rfl rfl rfl rfl rfl ?_
  intro w2001 hS2001; clear hS5
  refine S.assignT rfl ?_
  refine WS.done ?_
  refine WR.seq ?_
  refine WR.seq ?_
  refine WR.region rfl ?_
  refine S.moveT rfl ?_
  refine S.lss rfl rfl rfl ?_
  refine S.moveT rfl ?_
  refine S.splitD (d := 21) rfl (fun c21 => ?_) (fun c21 => ?_)
  ·
    skip
    refine S.off rfl ?_
    refine S.off rfl ?_
    refine S.pickTC rfl rfl ?_
    refine WS.done ?_
    refine WR.condT rfl ?_
    refine WR.seq ?_
    refine WR.region rfl ?_
    refine S.moveT rfl ?_
    refine S.notD rfl rfl ?_
    refine S.isTD (d := 26) rfl (by omega) ?_
    refine S.moveT rfl ?_
    refine S.loadBA (i := 0) hS2001 rfl Try.underlying60 rfl ti60 rfl rfl rfl rfl ?_
    refine S.buildZero ti60 rfl (by kernel_rfl) rfl ?_
    refine S.eqlS rfl rfl (by kernel_rfl) (Eq1.struct Try.underlying60 (by kernel_rfl) (EqF.cons (by decide) (Part1.one Try.underlying2 rfl rfl) (Part1.one Try.underlying2 rfl rfl) (Eq1.int Try.underlying2) (EqF.one (by decide) (Part1.one Try.underlying2 rfl rfl) (Part1.one Try.underlying2 rfl rfl) (Eq1.int Try.underlying2)))) rfl ?_
    refine S.isTD (d := 30) rfl (by exact ⟨by omega, by omega⟩) ?_
    refine S.pickT rfl rfl ?_
    refine S.assignT rfl ?_
    refine WS.done ?_
    refine WR.ret (ret1 rfl rfl ?_)
    exact ⟨rfl, hS2001.drop⟩
  ·
    skip
    refine S.moveT rfl ?_
    refine S.gtr rfl rfl rfl ?_
    refine S.pickF rfl rfl ?_
    refine WS.done ?_
    refine WR.condD rfl (fun c24 => ?_) (fun c24 => ?_)
    ·
      skip
      refine WR.seq ?_
      refine WR.region rfl ?_
      refine S.moveT rfl ?_
      refine S.notD rfl rfl ?_
      refine S.isTD (d := 26) rfl (by omega) ?_
      refine S.moveT rfl ?_
      refine S.loadBA (i := 0) hS2001 rfl Try.underlying60 rfl ti60 rfl rfl rfl rfl ?_
      refine S.buildZero ti60 rfl (by kernel_rfl) rfl ?_
      refine S.eqlS rfl rfl (by kernel_rfl) (Eq1.struct Try.underlying60 (by kernel_rfl) (EqF.cons (by decide) (Part1.one Try.underlying2 rfl rfl) (Part1.one Try.underlying2 rfl rfl) (Eq1.int Try.underlying2) (EqF.one (by decide) (Part1.one Try.underlying2 rfl rfl) (Part1.one Try.underlying2 rfl rfl) (Eq1.int Try.underlying2)))) rfl ?_
      refine S.isTD (d := 30) rfl (by exact ⟨by omega, by omega⟩) ?_
      refine S.pickT rfl rfl ?_
      refine S.assignT rfl ?_
      refine WS.done ?_
      refine WR.ret (ret1 rfl rfl ?_)
      exact ⟨rfl, hS2001.drop⟩
    ·
      skip
      refine WR.skip ?_
      refine WR.seq ?_
      refine WR.region rfl ?_
      obtain ⟨hpq, hpf, hqf, hiff⟩ : p16 ≤ q16 ∧ fits p16 ∧ fits q16 ∧ ∀ v, fits v → ((bkt v : Int) = k ↔ p16 ≤ v ∧ v ≤ q16) := by
        rcases hB16 with h | h
        · exact absurd h.1 (by omega)
        · exact h.2
      refine S.moveT rfl ?_
      refine S.moveT rfl ?_
      refine S.isTD (d := 33) rfl (by omega) ?_
      refine S.loadBA (i := 0) hS2001 rfl Try.underlying60 rfl ti60 rfl rfl rfl rfl ?_
      refine S.call ent26 rfl (g_right hS2001 ) rfl ?_
      rintro _ w35 ⟨rfl, hS35⟩
      clear hS2001
      refine S.isTD (d := 35) rfl (by exact hpq) ?_
      refine S.pickT rfl rfl ?_
      refine S.moveT rfl ?_
      refine S.fieldB Try.underlying60 rfl ti2 rfl rfl rfl rfl ?_
      refine S.loadB (i := 0) hS35 rfl Try.underlying2 rfl rfl rfl rfl ?_
      refine S.call ent24 rfl (h5_bucket hS35 (by exact hpf)) rfl ?_
      rintro _ w40 ⟨rfl, hS40⟩
      clear hS35
      refine S.moveT rfl ?_
      refine S.eql rfl rfl rfl ?_
      refine S.isTD (d := 42) rfl (by exact (hiff _ hpf).2 ⟨by omega, hpq⟩) ?_
      refine S.pickT rfl rfl ?_
      refine S.moveT rfl ?_
      refine S.fieldB Try.underlying60 rfl ti2 rfl rfl rfl rfl ?_
      refine S.loadB (i := 0) hS40 rfl Try.underlying2 rfl rfl rfl rfl ?_
      refine S.call ent24 rfl (h5_bucket hS40 (by exact hqf)) rfl ?_
      rintro _ w47 ⟨rfl, hS47⟩
      clear hS40
      refine S.moveT rfl ?_
      refine S.eql rfl rfl rfl ?_
      refine S.isTD (d := 49) rfl (by exact (hiff _ hqf).2 ⟨hpq, by omega⟩) ?_
      refine S.pickT rfl rfl ?_
      refine S.moveT rfl ?_
      refine S.loadBA (i := 0) hS47 rfl Try.underlying60 rfl ti60 rfl rfl rfl rfl ?_
      refine S.moveT rfl ?_
      refine S.call ent27 rfl (g_has hS47 ) rfl ?_
      rintro _ w54 ⟨rfl, hS54⟩
      clear hS47
      refine S.moveT rfl ?_
      refine S.call ent24 rfl (h5_bucket hS54 (by assumption)) rfl ?_
      rintro _ w56 ⟨rfl, hS56⟩
      clear hS54
      refine S.moveT rfl ?_
      refine S.eql rfl rfl rfl ?_
      refine S.eqlB Try.underlying4 rfl rfl rfl ?_
      refine S.isB (d := 59) (c := true) rfl (by rw [beq_iff_eq]; exact decide_eq_decide.2 (hiff _ ha).symm) ?_
      refine S.pickT rfl rfl ?_
      refine S.assignT rfl ?_
      refine WS.done ?_
      refine WR.ret (ret1 rfl rfl ?_)
      exact ⟨rfl, hS56.drop⟩


end Go.Proofs.Ytmmdbincgianaaa.B

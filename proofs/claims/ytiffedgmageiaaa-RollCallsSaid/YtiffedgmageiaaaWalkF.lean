import Derived.Test.YtiffedgmageiaaaWalkE
namespace Go.Proofs.Ytiffedgmageiaaa.B
open Go.Proofs Go.RowKit
set_option linter.unusedVariables false
set_option linter.unusedSimpArgs false
set_option maxRecDepth 100000 in
set_option maxHeartbeats 4000000 in
theorem law_RollCalls {w : World} {R : Kn} {L : List HP}  (hS : St w R (L)) {mo a ep : Int} {v1 : Value} {xs : List Five} (h1 : Ro R fiveE 5 v1 xs) (hok : ∀ x ∈ xs, x.ok) (hlx : xs.length ≤ 140737488355328) (hfa : fits a) :
    Fn Try.prog 3 #[.int .i64 mo, v1, .int .i64 a, .int .i64 ep] w (fun v w' => v = .bool true ∧ St w' R L) := by
  obtain ⟨a1, c1, rfl, hl1⟩ := h1.len
  have hfa2 := id hfa
  unfold fits at hfa2
  refine Fn.intro (n := 172) Try.func3 rfl rfl rfl ?_
  refine WR.seq ?_
  refine WR.region rfl ?_
  refine S.assignC rfl ?_
  refine WS.done ?_
  refine WR.seq ?_
  refine WR.seq ?_
  refine WR.region rfl ?_
  refine S.call ent6 rfl (l15_alive hS ) rfl ?_
  rintro _ w24 ⟨rfl, hS24⟩
  clear hS
  refine S.not rfl rfl ?_
  refine WS.done ?_
  refine WR.condF rfl ?_
  refine WR.skip ?_
  refine WR.seq ?_
  refine WR.seq ?_
  refine WR.region rfl ?_
  refine S.moveT rfl ?_
  refine S.lenSl Try.underlying22 rfl rfl ?_
  refine S.gtr rfl rfl rfl ?_
  refine WS.done ?_
  refine WR.condD rfl (fun c28 => ?_) (fun c28 => ?_)
  ·
    skip
    refine WR.seq ?_
    refine WR.region rfl ?_
    refine S.assignC rfl ?_
    refine WS.done ?_
    refine WR.ret (ret1 rfl rfl ?_)
    exact ⟨rfl, hS24⟩
  ·
    skip
    refine WR.skip ?_
    refine WR.seq ?_
    refine WR.region rfl ?_
    refine S.moveT rfl ?_
    refine S.call ent7 rfl (r_new hS24 ) rfl ?_
    rintro v31 w31 hcs31
    clear hS24
    rcases hcs31 with ⟨hN31, rfl, hS31⟩ | ⟨hN31, bh31, bm31, rfl, hS31⟩
    ·
      skip
      refine S.moveT rfl ?_
      refine S.extract rfl rfl rfl ?_
      refine S.extract rfl rfl rfl ?_
      refine S.assignT rfl ?_
      refine S.assignT rfl ?_
      refine WS.done ?_
      refine WR.seq ?_
      refine WR.region rfl ?_
      refine S.moveT rfl ?_
      refine S.call ent8 rfl (s_new hS31 ) rfl ?_
      rintro v36 w36 hcs36
      clear hS31
      rcases hcs36 with ⟨hN36, rfl, hS36⟩ | ⟨hN36, bs36, rfl, hS36⟩
      ·
        skip
        refine S.moveT rfl ?_
        refine S.extract rfl rfl rfl ?_
        refine S.extract rfl rfl rfl ?_
        refine S.assignT rfl ?_
        refine S.assignT rfl ?_
        refine WS.done ?_
        refine WR.seq ?_
        refine WR.seq ?_
        refine WR.region rfl ?_
        refine S.moveT rfl ?_
        refine S.moveT rfl ?_
        refine S.neq rfl rfl rfl ?_
        refine S.isFD (d := 41) rfl (by exact fun h => h rfl) ?_
        refine S.moveT rfl ?_
        refine S.moveT rfl ?_
        refine S.eqlNilT Try.underlying24 rfl rfl rfl ?_
        refine S.moveT rfl ?_
        refine S.eqlNilT Try.underlying28 rfl rfl rfl ?_
        refine S.neqB Try.underlying4 rfl rfl rfl ?_
        refine S.isB (d := 47) (c := false) rfl (by rfl) ?_
        refine S.pickF rfl rfl ?_
        refine WS.done ?_
        refine WR.condF rfl ?_
        refine WR.skip ?_
        refine WR.seq ?_
        refine WR.seq ?_
        refine WR.region rfl ?_
        refine S.moveT rfl ?_
        refine S.eqlNilT Try.underlying24 rfl rfl rfl ?_
        refine S.moveT rfl ?_
        refine S.off rfl ?_
        refine S.off rfl ?_
        refine S.pickTC rfl rfl ?_
        refine WS.done ?_
        refine WR.condT rfl ?_
        refine WR.seq ?_
        refine WR.region rfl ?_
        refine S.assignC rfl ?_
        refine WS.done ?_
        refine WR.ret (ret1 rfl rfl ?_)
        exact ⟨rfl, hS36⟩
      ·
        exfalso; omega
    ·
      skip
      refine S.moveT rfl ?_
      refine S.extract rfl rfl rfl ?_
      refine S.extract rfl rfl rfl ?_
      refine S.assignT rfl ?_
      refine S.assignT rfl ?_
      refine WS.done ?_
      refine WR.seq ?_
      refine WR.region rfl ?_
      refine S.moveT rfl ?_
      refine S.call ent8 rfl (s_new hS31 ) rfl ?_
      rintro v36 w36 hcs36
      clear hS31
      rcases hcs36 with ⟨hN36, rfl, hS36⟩ | ⟨hN36, bs36, rfl, hS36⟩
      ·
        exfalso; omega
      ·
        skip
        refine S.moveT rfl ?_
        refine S.extract rfl rfl rfl ?_
        refine S.extract rfl rfl rfl ?_
        refine S.assignT rfl ?_
        refine S.assignT rfl ?_
        refine WS.done ?_
        refine WR.seq ?_
        refine WR.seq ?_
        refine WR.region rfl ?_
        refine S.moveT rfl ?_
        refine S.moveT rfl ?_
        refine S.neq rfl rfl rfl ?_
        refine S.isFD (d := 41) rfl (by exact fun h => h rfl) ?_
        refine S.moveT rfl ?_
        refine S.moveT rfl ?_
        refine S.eqlNil Try.underlying24 rfl rfl rfl ?_
        refine S.moveT rfl ?_
        refine S.eqlNil Try.underlying28 rfl rfl rfl ?_
        refine S.neqB Try.underlying4 rfl rfl rfl ?_
        refine S.isB (d := 47) (c := false) rfl (by rfl) ?_
        refine S.pickF rfl rfl ?_
        refine WS.done ?_
        refine WR.condF rfl ?_
        refine WR.skip ?_
        refine WR.seq ?_
        refine WR.seq ?_
        refine WR.region rfl ?_
        refine S.moveT rfl ?_
        refine S.eqlNil Try.underlying24 rfl rfl rfl ?_
        refine S.moveT rfl ?_
        refine S.moveT rfl ?_
        refine S.eqlNil Try.underlying28 rfl rfl rfl ?_
        refine S.pickF rfl rfl ?_
        refine WS.done ?_
        refine WR.condF rfl ?_
        refine WR.skip ?_
        refine WR.seq ?_
        refine WR.seq ?_
        refine WR.region rfl ?_
        refine S.assignC rfl ?_
        refine WS.done ?_
        refine WR.block ?_
        refine WR.loopE (fun rq mm rr wr => ∃ (i : Nat) (m : EM), mm = xs.length - i ∧ (i ≤ xs.length ∧ RI mo m) ∧ rr 13 = .int .i64 (i : Int) ∧ Agr [1, 2, 3, 9, 11] rr rq ∧ St wr R (blk bh31 (.cells (#[.int .i64 mo, .map (some bm31)]) 58 (0, 0)) :: Mp Try.prog 2 bm31 (mE entV m) :: blk bs36 (.cells (tabC [.int .i64 mo] e3C (tabR m)) 61 (0, 0)) :: L)) ⟨0, [], rfl, (by exact ⟨Nat.zero_le _, RI.nil (by omega)⟩), rfl, ⟨rfl, rfl, rfl, rfl, rfl, trivial⟩, (((hS36.at_ (i := 0) rfl).at_ (i := 2) rfl).at_ (i := 2) rfl)⟩ ?_
        rintro mm rr w1001 ⟨i, m, hm1001, ⟨hi, hI1⟩, hr1001_13, hA1001, hS1001⟩
        obtain ⟨rr, rfl⟩ := agrBack hA1001
        clear hA1001
        obtain ⟨rr, rfl⟩ := back1 (r := rr) hr1001_13
        clear hr1001_13
        refine WR.seq ?_
        refine WR.seq ?_
        refine WR.region rfl ?_
        refine S.moveT rfl ?_
        refine S.moveT rfl ?_
        refine S.lenSl Try.underlying22 rfl rfl ?_
        refine S.lss rfl rfl rfl ?_
        refine WS.done ?_
        refine WR.condD rfl (fun c58 => ?_) (fun c58 => ?_)
        ·
          skip
          refine WR.skip ?_
          refine WR.seq ?_
          refine WR.block ?_
          refine WR.seq ?_
          refine WR.region rfl ?_
          refine S.moveT rfl ?_
          refine S.moveT rfl ?_
          refine S.indexRo h1 Try.underlying22 ti32 rfl rfl (by omega) rfl ?_
          intro ad63 u63 hu63 hl63 hc63
          refine S.loadRoA hS1001 hc63 hl63 Try.underlying32 rfl ti32 rfl rfl ?_
          refine S.alloc hS1001 ti32 rfl rfl ?_
          intro b14 w14 hS14; clear hS1001
          refine S.storeB (i := 0) hS14 rfl ti32 rfl rfl rfl rfl rfl rfl rfl rfl ?_
          intro w2001 hS2001; clear hS14
          refine WS.done ?_
          refine WR.cutE (J := fun rq rr wr => ∃ (m2 : EM), (RI mo m2) ∧ Agr [1, 2, 3, 9, 11, 13, 14] rr rq ∧ St wr R (blk b14 (.cells (#[.int .i64 u63.a, .int .i64 u63.b, .int .i64 u63.c, .int .i64 u63.d, .int .i64 u63.e]) 32 (0, 0)) :: blk bh31 (.cells (#[.int .i64 mo, .map (some bm31)]) 58 (0, 0)) :: Mp Try.prog 2 bm31 (mE entV m2) :: blk bs36 (.cells (tabC [.int .i64 mo] e3C (tabR m2)) 61 (0, 0)) :: L)) ?_ ?_
          ·
            skip
            refine WR.seq ?_
            refine WR.region rfl ?_
            refine S.fieldB Try.underlying32 rfl ti3 rfl rfl rfl rfl ?_
            refine S.loadB (i := 0) hS2001 rfl Try.underlying3 rfl rfl rfl rfl ?_
            refine S.eql rfl rfl rfl ?_
            refine WS.done ?_
            refine WR.condD rfl (fun c67 => ?_) (fun c67 => ?_)
            ·
              skip
              refine WR.seq ?_
              refine WR.region rfl ?_
              refine S.moveT rfl ?_
              refine S.fieldB Try.underlying32 rfl ti2 rfl rfl rfl rfl ?_
              refine S.loadB (i := 0) hS2001 rfl Try.underlying2 rfl rfl rfl rfl ?_
              refine S.fieldB Try.underlying32 rfl ti2 rfl rfl rfl rfl ?_
              refine S.loadB (i := 0) hS2001 rfl Try.underlying2 rfl rfl rfl rfl ?_
              refine S.fieldB Try.underlying32 rfl ti2 rfl rfl rfl rfl ?_
              refine S.loadB (i := 0) hS2001 rfl Try.underlying2 rfl rfl rfl rfl ?_
              refine S.call ent9 rfl (r_grant ((((hS2001.at_ (i := 3) rfl).at_ (i := 1) rfl).at_ (i := 3) rfl).at_ (i := 3) rfl) (by exact fits_wf (hok _ (List.mem_of_getElem? hu63)).2.1) (by exact fits_wf (hok _ (List.mem_of_getElem? hu63)).2.2.1) (by exact fits_wf (hok _ (List.mem_of_getElem? hu63)).2.2.2.1) (by exact hI1)) rfl ?_
              rintro _ w76 ⟨rfl, hS76⟩
              clear hS2001
              refine S.moveT rfl ?_
              refine S.extract rfl rfl rfl ?_
              refine S.extract rfl rfl rfl ?_
              refine S.extract rfl rfl rfl ?_
              refine S.alloc hS76 ti34 rfl rfl ?_
              intro b15 w15 hS15; clear hS76
              refine S.storeB (i := 0) hS15 rfl ti34 rfl rfl rfl rfl rfl rfl rfl rfl ?_
              intro w2003 hS2003; clear hS15
              refine S.assignT rfl ?_
              refine S.assignT rfl ?_
              refine WS.done ?_
              refine WR.seq ?_
              refine WR.region rfl ?_
              refine S.moveT rfl ?_
              refine S.fieldB Try.underlying32 rfl ti2 rfl rfl rfl rfl ?_
              refine S.loadB (i := 3) hS2003 rfl Try.underlying2 rfl rfl rfl rfl ?_
              refine S.fieldB Try.underlying32 rfl ti2 rfl rfl rfl rfl ?_
              refine S.loadB (i := 3) hS2003 rfl Try.underlying2 rfl rfl rfl rfl ?_
              refine S.fieldB Try.underlying32 rfl ti2 rfl rfl rfl rfl ?_
              refine S.loadB (i := 3) hS2003 rfl Try.underlying2 rfl rfl rfl rfl ?_
              refine S.call ent10 rfl (s_grant (((((hS2003.at_ (i := 3) rfl).at_ (i := 3) rfl).at_ (i := 3) rfl).at_ (i := 3) rfl).at_ (i := 4) rfl) (by exact hI1)) rfl ?_
              rintro _ w88 ⟨rfl, hS88⟩
              clear hS2003
              refine S.moveT rfl ?_
              refine S.extract rfl rfl rfl ?_
              refine S.extract rfl rfl rfl ?_
              refine S.extract rfl rfl rfl ?_
              refine S.alloc hS88 ti37 rfl rfl ?_
              intro b18 w18 hS18; clear hS88
              refine S.storeB (i := 0) hS18 rfl ti37 rfl rfl rfl rfl rfl rfl rfl rfl ?_
              intro w2004 hS2004; clear hS18
              refine S.assignT rfl ?_
              refine S.assignT rfl ?_
              refine WS.done ?_
              refine WR.seq ?_
              refine WR.regionW (fun j => false) 14 rfl mixed hS2004 ?_
              intro w6005 hS6005; clear hS2004; have hC := hS6005
              refine WA.take (fuel := 13) 0 rfl (by kernel_rfl) (by kernel_rfl) (by kernel_rfl) (by kernel_rfl) rfl rfl hC ?_
              refine Q.loadBA (i := 2) rfl Try.underlying34 rfl ti34 rfl rfl rfl rfl ?_
              refine WQ.done ?_
              refine WA.take (fuel := 12) 2 rfl (by kernel_rfl) (by kernel_rfl) (by kernel_rfl) (by kernel_rfl) rfl rfl hC ?_
              refine Q.loadBA (i := 0) rfl Try.underlying37 rfl ti37 rfl rfl rfl rfl ?_
              refine WQ.done ?_
              refine WA.one (fuel := 11) 1 rfl (by kernel_rfl) rfl ?_
              refine S.call ent11 rfl (l15_of hS6005 ) rfl ?_
              rintro _ w93 ⟨rfl, hS93⟩
              clear hS6005
              refine WS.done ⟨fun _ => hS93, ?_⟩
              replace hC := hS93
              refine WA.take (fuel := 10) 3 rfl (by kernel_rfl) (by kernel_rfl) (by kernel_rfl) (by kernel_rfl) rfl rfl hC ?_
              refine Q.neqS rfl rfl (by kernel_rfl) (Eq1.struct Try.underlying37 (by kernel_rfl) (EqF.cons (by decide) (Part1.one Try.underlying2 rfl rfl) (Part1.one Try.underlying2 rfl rfl) (Eq1.int Try.underlying2) (EqF.cons (by decide) (Part1.one Try.underlying2 rfl rfl) (Part1.one Try.underlying2 rfl rfl) (Eq1.int Try.underlying2) (EqF.one (by decide) (Part1.one Try.underlying2 rfl rfl) (Part1.one Try.underlying2 rfl rfl) (Eq1.int Try.underlying2))))) rfl ?_
              refine Q.isFD (d := 95) rfl (by exact fun h => h ⟨rfl, rfl, rfl⟩) ?_
              refine WQ.done ?_
              refine WA.take (fuel := 9) 4 rfl (by kernel_rfl) (by kernel_rfl) (by kernel_rfl) (by kernel_rfl) rfl rfl hC ?_
              refine Q.moveT rfl ?_
              refine WQ.done ?_
              refine WA.take (fuel := 8) 5 rfl (by kernel_rfl) (by kernel_rfl) (by kernel_rfl) (by kernel_rfl) rfl rfl hC ?_
              refine Q.moveT rfl ?_
              refine WQ.done ?_
              refine WA.take (fuel := 7) 6 rfl (by kernel_rfl) (by kernel_rfl) (by kernel_rfl) (by kernel_rfl) rfl rfl hC ?_
              refine Q.moveT rfl ?_
              refine WQ.done ?_
              refine WA.take (fuel := 6) 7 rfl (by kernel_rfl) (by kernel_rfl) (by kernel_rfl) (by kernel_rfl) rfl rfl hC ?_
              refine Q.neqB Try.underlying4 rfl rfl rfl ?_
              refine Q.isB (d := 99) (c := false) rfl (by simp) ?_
              refine WQ.done ?_
              refine WA.take (fuel := 5) 8 rfl (by kernel_rfl) (by kernel_rfl) (by kernel_rfl) (by kernel_rfl) rfl rfl hC ?_
              refine Q.pickF rfl rfl ?_
              refine WQ.done ?_
              refine WA.take (fuel := 4) 9 rfl (by kernel_rfl) (by kernel_rfl) (by kernel_rfl) (by kernel_rfl) rfl rfl hC ?_
              refine Q.moveT rfl ?_
              refine WQ.done ?_
              refine WA.take (fuel := 3) 10 rfl (by kernel_rfl) (by kernel_rfl) (by kernel_rfl) (by kernel_rfl) rfl rfl hC ?_
              refine Q.moveT rfl ?_
              refine WQ.done ?_
              refine WA.take (fuel := 2) 11 rfl (by kernel_rfl) (by kernel_rfl) (by kernel_rfl) (by kernel_rfl) rfl rfl hC ?_
              refine Q.moveT rfl ?_
              refine WQ.done ?_
              refine WA.take (fuel := 1) 12 rfl (by kernel_rfl) (by kernel_rfl) (by kernel_rfl) (by kernel_rfl) rfl rfl hC ?_
              refine Q.neq rfl rfl rfl ?_
              refine Q.isFD (d := 104) rfl (by exact fun h => h rfl) ?_
              refine WQ.done ?_
              refine WA.take (fuel := 0) 13 rfl (by kernel_rfl) (by kernel_rfl) (by kernel_rfl) (by kernel_rfl) rfl rfl hC ?_
              refine Q.pickF rfl rfl ?_
              refine WQ.done ?_
              refine WA.done (by kernel_rfl) ?_
              clear hC
              refine WR.condF rfl ?_
              refine WR.skip ?_
              exact ⟨_, (by first | exact hI1.grant | exact hI1), ⟨rfl, rfl, rfl, rfl, rfl, rfl, rfl, trivial⟩, ((((((hS93.at_ (i := 1) rfl).at_ (i := 4) rfl).at_ (i := 4) rfl).at_ (i := 5) rfl).at_ (i := 5) rfl).at_ (i := 5) rfl).drop.drop⟩
            ·
              skip
              refine WR.skip ?_
              exact ⟨_, (by first | exact hI1.grant | exact hI1), ⟨rfl, rfl, rfl, rfl, rfl, rfl, rfl, trivial⟩, hS2001⟩
          ·
            skip
            rintro rr w8002 ⟨m2, hI2, hA8002, hS8002⟩
            obtain ⟨rr, rfl⟩ := agrBack hA8002
            clear hA8002
            clear hS2001
            refine WR.seq ?_
            refine WR.seq ?_
            by_cases hw : u63.a = 1
            ·
              skip
              refine WR.regionWC (fun j => false) 28 rfl mixed hS8002 (fun wC sC => (sC).only (A := [_])) ?_
              intro w6006 hS6006; clear hS8002; have hC := (hS6006).only (A := [_])
              refine WA.take (fuel := 27) 0 rfl (by kernel_rfl) (by kernel_rfl) (by kernel_rfl) (by kernel_rfl) rfl rfl hC ?_
              refine Q.fieldB Try.underlying32 rfl ti3 rfl rfl rfl rfl ?_
              refine WQ.done ?_
              refine WA.take (fuel := 26) 1 rfl (by kernel_rfl) (by kernel_rfl) (by kernel_rfl) (by kernel_rfl) rfl rfl hC ?_
              refine Q.loadB (i := 0) rfl Try.underlying3 rfl rfl rfl rfl ?_
              refine WQ.done ?_
              refine WA.take (fuel := 25) 2 rfl (by kernel_rfl) (by kernel_rfl) (by kernel_rfl) (by kernel_rfl) rfl rfl hC ?_
              refine Q.eql rfl rfl rfl ?_
              refine Q.isTD (d := 108) rfl (by exact hw) ?_
              refine WQ.done ?_
              refine WA.take (fuel := 24) 3 rfl (by kernel_rfl) (by kernel_rfl) (by kernel_rfl) (by kernel_rfl) rfl rfl hC ?_
              refine Q.moveT rfl ?_
              refine WQ.done ?_
              refine WA.take (fuel := 23) 4 rfl (by kernel_rfl) (by kernel_rfl) (by kernel_rfl) (by kernel_rfl) rfl rfl hC ?_
              refine Q.moveT rfl ?_
              refine WQ.done ?_
              refine WA.take (fuel := 22) 5 rfl (by kernel_rfl) (by kernel_rfl) (by kernel_rfl) (by kernel_rfl) rfl rfl hC ?_
              refine Q.fieldB Try.underlying32 rfl ti2 rfl rfl rfl rfl ?_
              refine WQ.done ?_
              refine WA.take (fuel := 21) 6 rfl (by kernel_rfl) (by kernel_rfl) (by kernel_rfl) (by kernel_rfl) rfl rfl hC ?_
              refine Q.loadB (i := 0) rfl Try.underlying2 rfl rfl rfl rfl ?_
              refine WQ.done ?_
              refine WA.take (fuel := 20) 7 rfl (by kernel_rfl) (by kernel_rfl) (by kernel_rfl) (by kernel_rfl) rfl rfl hC ?_
              refine Q.fieldB Try.underlying32 rfl ti2 rfl rfl rfl rfl ?_
              refine WQ.done ?_
              refine WA.take (fuel := 19) 8 rfl (by kernel_rfl) (by kernel_rfl) (by kernel_rfl) (by kernel_rfl) rfl rfl hC ?_
              refine Q.loadB (i := 0) rfl Try.underlying2 rfl rfl rfl rfl ?_
              refine WQ.done ?_
              refine WA.take (fuel := 18) 9 rfl (by kernel_rfl) (by kernel_rfl) (by kernel_rfl) (by kernel_rfl) rfl rfl hC ?_
              refine Q.fieldB Try.underlying32 rfl ti2 rfl rfl rfl rfl ?_
              refine WQ.done ?_
              refine WA.take (fuel := 17) 10 rfl (by kernel_rfl) (by kernel_rfl) (by kernel_rfl) (by kernel_rfl) rfl rfl hC ?_
              refine Q.loadB (i := 0) rfl Try.underlying2 rfl rfl rfl rfl ?_
              refine WQ.done ?_
              refine WA.take (fuel := 16) 11 rfl (by kernel_rfl) (by kernel_rfl) (by kernel_rfl) (by kernel_rfl) rfl rfl hC ?_
              refine Q.fieldB Try.underlying32 rfl ti2 rfl rfl rfl rfl ?_
              refine WQ.done ?_
              refine WA.take (fuel := 15) 12 rfl (by kernel_rfl) (by kernel_rfl) (by kernel_rfl) (by kernel_rfl) rfl rfl hC ?_
              refine Q.loadB (i := 0) rfl Try.underlying2 rfl rfl rfl rfl ?_
              refine WQ.done ?_
              refine WA.take (fuel := 14) 15 rfl (by kernel_rfl) (by kernel_rfl) (by kernel_rfl) (by kernel_rfl) rfl rfl hC ?_
              refine Q.moveT rfl ?_
              refine WQ.done ?_
              refine WA.take (fuel := 13) 16 rfl (by kernel_rfl) (by kernel_rfl) (by kernel_rfl) (by kernel_rfl) rfl rfl hC ?_
              refine Q.fieldB Try.underlying32 rfl ti2 rfl rfl rfl rfl ?_
              refine WQ.done ?_
              refine WA.take (fuel := 12) 17 rfl (by kernel_rfl) (by kernel_rfl) (by kernel_rfl) (by kernel_rfl) rfl rfl hC ?_
              refine Q.loadB (i := 0) rfl Try.underlying2 rfl rfl rfl rfl ?_
              refine WQ.done ?_
              refine WA.take (fuel := 11) 18 rfl (by kernel_rfl) (by kernel_rfl) (by kernel_rfl) (by kernel_rfl) rfl rfl hC ?_
              refine Q.fieldB Try.underlying32 rfl ti2 rfl rfl rfl rfl ?_
              refine WQ.done ?_
              refine WA.take (fuel := 10) 19 rfl (by kernel_rfl) (by kernel_rfl) (by kernel_rfl) (by kernel_rfl) rfl rfl hC ?_
              refine Q.loadB (i := 0) rfl Try.underlying2 rfl rfl rfl rfl ?_
              refine WQ.done ?_
              refine WA.take (fuel := 9) 20 rfl (by kernel_rfl) (by kernel_rfl) (by kernel_rfl) (by kernel_rfl) rfl rfl hC ?_
              refine Q.fieldB Try.underlying32 rfl ti2 rfl rfl rfl rfl ?_
              refine WQ.done ?_
              refine WA.take (fuel := 8) 21 rfl (by kernel_rfl) (by kernel_rfl) (by kernel_rfl) (by kernel_rfl) rfl rfl hC ?_
              refine Q.loadB (i := 0) rfl Try.underlying2 rfl rfl rfl rfl ?_
              refine WQ.done ?_
              refine WA.take (fuel := 7) 22 rfl (by kernel_rfl) (by kernel_rfl) (by kernel_rfl) (by kernel_rfl) rfl rfl hC ?_
              refine Q.fieldB Try.underlying32 rfl ti2 rfl rfl rfl rfl ?_
              refine WQ.done ?_
              refine WA.take (fuel := 6) 23 rfl (by kernel_rfl) (by kernel_rfl) (by kernel_rfl) (by kernel_rfl) rfl rfl hC ?_
              refine Q.loadB (i := 0) rfl Try.underlying2 rfl rfl rfl rfl ?_
              refine WQ.done ?_
              refine WA.two (fuel := 5) 13 24 rfl rfl (by kernel_rfl) rfl ?_ ?_
              ·
                skip
                refine S.buildStruct [.int _ _, .int _ _, .int _ _] [(0, 1), (1, 1), (2, 1)] Try.underlying34 ti34 rfl (by kernel_rfl) rfl rfl rfl rfl rfl rfl ?_
                refine WS.done ⟨fun _ => ((hS6006).only (A := [_])), ?_⟩
                replace hC := ((hS6006).only (A := [_]))
                refine WA.two (fuel := 4) 14 24 rfl rfl (by kernel_rfl) rfl ?_ ?_
                ·
                  skip
                  refine S.call ent12 rfl (r_set ((((hS6006.at_ (i := 3) rfl).at_ (i := 1) rfl).at_ (i := 3) rfl).at_ (i := 3) rfl) (by exact fits_wf (hok _ (List.mem_of_getElem? hu63)).2.1) (by exact hI2)) rfl ?_
                  rintro _ w120 ⟨rfl, hS120⟩
                  clear hS6006
                  refine WS.done ⟨fun _ => ((((((hS120.at_ (i := 3) rfl).at_ (i := 2) rfl).at_ (i := 2) rfl).at_ (i := 3) rfl)).only (A := [_])), ?_⟩
                  replace hC := ((((((hS120.at_ (i := 3) rfl).at_ (i := 2) rfl).at_ (i := 2) rfl).at_ (i := 3) rfl)).only (A := [_]))
                  refine WA.one (fuel := 3) 24 rfl (by kernel_rfl) rfl ?_
                  refine S.buildStruct [.int _ _, .int _ _, .int _ _] [(0, 1), (1, 1), (2, 1)] Try.underlying37 ti37 rfl (by kernel_rfl) rfl rfl rfl rfl rfl rfl ?_
                  refine WS.done ⟨fun _ => ((((((hS120.at_ (i := 3) rfl).at_ (i := 2) rfl).at_ (i := 2) rfl).at_ (i := 3) rfl)).only (A := [_])), ?_⟩
                  replace hC := ((((((hS120.at_ (i := 3) rfl).at_ (i := 2) rfl).at_ (i := 2) rfl).at_ (i := 3) rfl)).only (A := [_]))
                  refine WA.one (fuel := 2) 25 rfl (by kernel_rfl) rfl ?_
                  refine S.call ent13 rfl (s_set ((((hS120.at_ (i := 2) rfl).at_ (i := 2) rfl).at_ (i := 2) rfl).at_ (i := 3) rfl) (by exact hI2)) rfl ?_
                  rintro _ w131 ⟨rfl, hS131⟩
                  clear hS120
                  refine WS.done ⟨fun _ => ((((((hS131.at_ (i := 2) rfl).at_ (i := 2) rfl).at_ (i := 2) rfl).at_ (i := 3) rfl)).only (A := [_])), ?_⟩
                  replace hC := ((((((hS131.at_ (i := 2) rfl).at_ (i := 2) rfl).at_ (i := 2) rfl).at_ (i := 3) rfl)).only (A := [_]))
                  refine WA.take (fuel := 1) 26 rfl (by kernel_rfl) (by kernel_rfl) (by kernel_rfl) (by kernel_rfl) rfl rfl hC ?_
                  refine Q.neq rfl rfl rfl ?_
                  refine Q.isFD (d := 132) rfl (by exact fun h => h rfl) ?_
                  refine WQ.done ?_
                  refine WA.take (fuel := 0) 27 rfl (by kernel_rfl) (by kernel_rfl) (by kernel_rfl) (by kernel_rfl) rfl rfl hC ?_
                  refine Q.pickT rfl rfl ?_
                  refine WQ.done ?_
                  refine WA.done (by kernel_rfl) ?_
                  clear hC
                  refine WR.condF rfl ?_
                  refine WR.skip ?_
                  refine WR.seq ?_
                  refine WR.region rfl ?_
                  refine S.moveT rfl ?_
                  refine S.moveT rfl ?_
                  refine S.call ent14 rfl (l15_Agree ((((hS131.at_ (i := 3) rfl).at_ (i := 1) rfl).at_ (i := 3) rfl).at_ (i := 3) rfl) (by first | exact hI2.sett | exact hI2)) rfl ?_
                  rintro _ w136 ⟨rfl, hS136⟩
                  clear hS131
                  refine S.not rfl rfl ?_
                  refine WS.done ?_
                  refine WR.condF rfl ?_
                  refine WR.skip ?_
                  refine WR.region rfl ?_
                  refine S.moveT rfl ?_
                  first
                    | refine S.addN rfl rfl rfl (by omega) ?_
                    | refine S.add rfl rfl rfl ?_
                  refine S.assignT rfl ?_
                  refine WS.done ?_
                  exact ⟨_, (by omega), ⟨i + 1, _, rfl, (by exact ⟨by omega, by first | exact hI2.sett | exact hI2⟩), rfl, ⟨rfl, rfl, rfl, rfl, rfl, trivial⟩, ((((hS136.at_ (i := 2) rfl).at_ (i := 2) rfl).at_ (i := 2) rfl).at_ (i := 3) rfl).drop⟩⟩
                ·
                  skip
                  refine S.buildStruct [.int _ _, .int _ _, .int _ _] [(0, 1), (1, 1), (2, 1)] Try.underlying37 ti37 rfl (by kernel_rfl) rfl rfl rfl rfl rfl rfl ?_
                  refine WS.done ⟨fun _ => ((hS6006).only (A := [_])), ?_⟩
                  replace hC := ((hS6006).only (A := [_]))
                  refine WA.one (fuel := 3) 14 rfl (by kernel_rfl) rfl ?_
                  refine S.call ent12 rfl (r_set ((((hS6006.at_ (i := 3) rfl).at_ (i := 1) rfl).at_ (i := 3) rfl).at_ (i := 3) rfl) (by exact fits_wf (hok _ (List.mem_of_getElem? hu63)).2.1) (by exact hI2)) rfl ?_
                  rintro _ w120 ⟨rfl, hS120⟩
                  clear hS6006
                  refine WS.done ⟨fun _ => ((((((hS120.at_ (i := 3) rfl).at_ (i := 2) rfl).at_ (i := 2) rfl).at_ (i := 3) rfl)).only (A := [_])), ?_⟩
                  replace hC := ((((((hS120.at_ (i := 3) rfl).at_ (i := 2) rfl).at_ (i := 2) rfl).at_ (i := 3) rfl)).only (A := [_]))
                  refine WA.one (fuel := 2) 25 rfl (by kernel_rfl) rfl ?_
                  refine S.call ent13 rfl (s_set ((((hS120.at_ (i := 2) rfl).at_ (i := 2) rfl).at_ (i := 2) rfl).at_ (i := 3) rfl) (by exact hI2)) rfl ?_
                  rintro _ w131 ⟨rfl, hS131⟩
                  clear hS120
                  refine WS.done ⟨fun _ => ((((((hS131.at_ (i := 2) rfl).at_ (i := 2) rfl).at_ (i := 2) rfl).at_ (i := 3) rfl)).only (A := [_])), ?_⟩
                  replace hC := ((((((hS131.at_ (i := 2) rfl).at_ (i := 2) rfl).at_ (i := 2) rfl).at_ (i := 3) rfl)).only (A := [_]))
                  refine WA.take (fuel := 1) 26 rfl (by kernel_rfl) (by kernel_rfl) (by kernel_rfl) (by kernel_rfl) rfl rfl hC ?_
                  refine Q.neq rfl rfl rfl ?_
                  refine Q.isFD (d := 132) rfl (by exact fun h => h rfl) ?_
                  refine WQ.done ?_
                  refine WA.take (fuel := 0) 27 rfl (by kernel_rfl) (by kernel_rfl) (by kernel_rfl) (by kernel_rfl) rfl rfl hC ?_
                  refine Q.pickT rfl rfl ?_
                  refine WQ.done ?_
                  refine WA.done (by kernel_rfl) ?_
                  clear hC
                  refine WR.condF rfl ?_
                  refine WR.skip ?_
                  refine WR.seq ?_
                  refine WR.region rfl ?_
                  refine S.moveT rfl ?_
                  refine S.moveT rfl ?_
                  refine S.call ent14 rfl (l15_Agree ((((hS131.at_ (i := 3) rfl).at_ (i := 1) rfl).at_ (i := 3) rfl).at_ (i := 3) rfl) (by first | exact hI2.sett | exact hI2)) rfl ?_
                  rintro _ w136 ⟨rfl, hS136⟩
                  clear hS131
                  refine S.not rfl rfl ?_
                  refine WS.done ?_
                  refine WR.condF rfl ?_
                  refine WR.skip ?_
                  refine WR.region rfl ?_
                  refine S.moveT rfl ?_
                  first
                    | refine S.addN rfl rfl rfl (by omega) ?_
                    | refine S.add rfl rfl rfl ?_
                  refine S.assignT rfl ?_
                  refine WS.done ?_
                  exact ⟨_, (by omega), ⟨i + 1, _, rfl, (by exact ⟨by omega, by first | exact hI2.sett | exact hI2⟩), rfl, ⟨rfl, rfl, rfl, rfl, rfl, trivial⟩, ((((hS136.at_ (i := 2) rfl).at_ (i := 2) rfl).at_ (i := 2) rfl).at_ (i := 3) rfl).drop⟩⟩
              ·
                skip
                refine S.buildStruct [.int _ _, .int _ _, .int _ _] [(0, 1), (1, 1), (2, 1)] Try.underlying37 ti37 rfl (by kernel_rfl) rfl rfl rfl rfl rfl rfl ?_
                refine WS.done ⟨fun _ => ((hS6006).only (A := [_])), ?_⟩
                replace hC := ((hS6006).only (A := [_]))
                refine WA.one (fuel := 4) 13 rfl (by kernel_rfl) rfl ?_
                refine S.buildStruct [.int _ _, .int _ _, .int _ _] [(0, 1), (1, 1), (2, 1)] Try.underlying34 ti34 rfl (by kernel_rfl) rfl rfl rfl rfl rfl rfl ?_
                refine WS.done ⟨fun _ => ((hS6006).only (A := [_])), ?_⟩
                replace hC := ((hS6006).only (A := [_]))
                refine WA.one (fuel := 3) 14 rfl (by kernel_rfl) rfl ?_
                refine S.call ent12 rfl (r_set ((((hS6006.at_ (i := 3) rfl).at_ (i := 1) rfl).at_ (i := 3) rfl).at_ (i := 3) rfl) (by exact fits_wf (hok _ (List.mem_of_getElem? hu63)).2.1) (by exact hI2)) rfl ?_
                rintro _ w120 ⟨rfl, hS120⟩
                clear hS6006
                refine WS.done ⟨fun _ => ((((((hS120.at_ (i := 3) rfl).at_ (i := 2) rfl).at_ (i := 2) rfl).at_ (i := 3) rfl)).only (A := [_])), ?_⟩
                replace hC := ((((((hS120.at_ (i := 3) rfl).at_ (i := 2) rfl).at_ (i := 2) rfl).at_ (i := 3) rfl)).only (A := [_]))
                refine WA.one (fuel := 2) 25 rfl (by kernel_rfl) rfl ?_
                refine S.call ent13 rfl (s_set ((((hS120.at_ (i := 2) rfl).at_ (i := 2) rfl).at_ (i := 2) rfl).at_ (i := 3) rfl) (by exact hI2)) rfl ?_
                rintro _ w131 ⟨rfl, hS131⟩
                clear hS120
                refine WS.done ⟨fun _ => ((((((hS131.at_ (i := 2) rfl).at_ (i := 2) rfl).at_ (i := 2) rfl).at_ (i := 3) rfl)).only (A := [_])), ?_⟩
                replace hC := ((((((hS131.at_ (i := 2) rfl).at_ (i := 2) rfl).at_ (i := 2) rfl).at_ (i := 3) rfl)).only (A := [_]))
                refine WA.take (fuel := 1) 26 rfl (by kernel_rfl) (by kernel_rfl) (by kernel_rfl) (by kernel_rfl) rfl rfl hC ?_
                refine Q.neq rfl rfl rfl ?_
                refine Q.isFD (d := 132) rfl (by exact fun h => h rfl) ?_
                refine WQ.done ?_
                refine WA.take (fuel := 0) 27 rfl (by kernel_rfl) (by kernel_rfl) (by kernel_rfl) (by kernel_rfl) rfl rfl hC ?_
                refine Q.pickT rfl rfl ?_
                refine WQ.done ?_
                refine WA.done (by kernel_rfl) ?_
                clear hC
                refine WR.condF rfl ?_
                refine WR.skip ?_
                refine WR.seq ?_
                refine WR.region rfl ?_
                refine S.moveT rfl ?_
                refine S.moveT rfl ?_
                refine S.call ent14 rfl (l15_Agree ((((hS131.at_ (i := 3) rfl).at_ (i := 1) rfl).at_ (i := 3) rfl).at_ (i := 3) rfl) (by first | exact hI2.sett | exact hI2)) rfl ?_
                rintro _ w136 ⟨rfl, hS136⟩
                clear hS131
                refine S.not rfl rfl ?_
                refine WS.done ?_
                refine WR.condF rfl ?_
                refine WR.skip ?_
                refine WR.region rfl ?_
                refine S.moveT rfl ?_
                first
                  | refine S.addN rfl rfl rfl (by omega) ?_
                  | refine S.add rfl rfl rfl ?_
                refine S.assignT rfl ?_
                refine WS.done ?_
                exact ⟨_, (by omega), ⟨i + 1, _, rfl, (by exact ⟨by omega, by first | exact hI2.sett | exact hI2⟩), rfl, ⟨rfl, rfl, rfl, rfl, rfl, trivial⟩, ((((hS136.at_ (i := 2) rfl).at_ (i := 2) rfl).at_ (i := 2) rfl).at_ (i := 3) rfl).drop⟩⟩
            ·
              skip
              refine WR.regionWC (fun j => false) 28 rfl mixed hS8002 (fun wC sC => (sC).only (A := [_])) ?_
              intro w6007 hS6007; clear hS8002; have hC := (hS6007).only (A := [_])
              refine WA.take (fuel := 27) 0 rfl (by kernel_rfl) (by kernel_rfl) (by kernel_rfl) (by kernel_rfl) rfl rfl hC ?_
              refine Q.fieldB Try.underlying32 rfl ti3 rfl rfl rfl rfl ?_
              refine WQ.done ?_
              refine WA.take (fuel := 26) 1 rfl (by kernel_rfl) (by kernel_rfl) (by kernel_rfl) (by kernel_rfl) rfl rfl hC ?_
              refine Q.loadB (i := 0) rfl Try.underlying3 rfl rfl rfl rfl ?_
              refine WQ.done ?_
              refine WA.take (fuel := 25) 2 rfl (by kernel_rfl) (by kernel_rfl) (by kernel_rfl) (by kernel_rfl) rfl rfl hC ?_
              refine Q.eql rfl rfl rfl ?_
              refine Q.isFD (d := 108) rfl (by exact hw) ?_
              refine WQ.done ?_
              refine WA.take (fuel := 24) 3 rfl (by kernel_rfl) (by kernel_rfl) (by kernel_rfl) (by kernel_rfl) rfl rfl hC ?_
              refine Q.moveT rfl ?_
              refine WQ.done ?_
              refine WA.take (fuel := 23) 4 rfl (by kernel_rfl) (by kernel_rfl) (by kernel_rfl) (by kernel_rfl) rfl rfl hC ?_
              refine Q.off rfl ?_
              refine WQ.done ?_
              refine WA.take (fuel := 22) 5 rfl (by kernel_rfl) (by kernel_rfl) (by kernel_rfl) (by kernel_rfl) rfl rfl hC ?_
              refine Q.off rfl ?_
              refine WQ.done ?_
              refine WA.take (fuel := 21) 6 rfl (by kernel_rfl) (by kernel_rfl) (by kernel_rfl) (by kernel_rfl) rfl rfl hC ?_
              refine Q.off rfl ?_
              refine WQ.done ?_
              refine WA.take (fuel := 20) 7 rfl (by kernel_rfl) (by kernel_rfl) (by kernel_rfl) (by kernel_rfl) rfl rfl hC ?_
              refine Q.off rfl ?_
              refine WQ.done ?_
              refine WA.take (fuel := 19) 8 rfl (by kernel_rfl) (by kernel_rfl) (by kernel_rfl) (by kernel_rfl) rfl rfl hC ?_
              refine Q.off rfl ?_
              refine WQ.done ?_
              refine WA.take (fuel := 18) 9 rfl (by kernel_rfl) (by kernel_rfl) (by kernel_rfl) (by kernel_rfl) rfl rfl hC ?_
              refine Q.off rfl ?_
              refine WQ.done ?_
              refine WA.take (fuel := 17) 10 rfl (by kernel_rfl) (by kernel_rfl) (by kernel_rfl) (by kernel_rfl) rfl rfl hC ?_
              refine Q.off rfl ?_
              refine WQ.done ?_
              refine WA.take (fuel := 16) 11 rfl (by kernel_rfl) (by kernel_rfl) (by kernel_rfl) (by kernel_rfl) rfl rfl hC ?_
              refine Q.off rfl ?_
              refine WQ.done ?_
              refine WA.take (fuel := 15) 12 rfl (by kernel_rfl) (by kernel_rfl) (by kernel_rfl) (by kernel_rfl) rfl rfl hC ?_
              refine Q.off rfl ?_
              refine WQ.done ?_
              refine WA.take (fuel := 14) 15 rfl (by kernel_rfl) (by kernel_rfl) (by kernel_rfl) (by kernel_rfl) rfl rfl hC ?_
              refine Q.off rfl ?_
              refine WQ.done ?_
              refine WA.take (fuel := 13) 16 rfl (by kernel_rfl) (by kernel_rfl) (by kernel_rfl) (by kernel_rfl) rfl rfl hC ?_
              refine Q.off rfl ?_
              refine WQ.done ?_
              refine WA.take (fuel := 12) 17 rfl (by kernel_rfl) (by kernel_rfl) (by kernel_rfl) (by kernel_rfl) rfl rfl hC ?_
              refine Q.off rfl ?_
              refine WQ.done ?_
              refine WA.take (fuel := 11) 18 rfl (by kernel_rfl) (by kernel_rfl) (by kernel_rfl) (by kernel_rfl) rfl rfl hC ?_
              refine Q.off rfl ?_
              refine WQ.done ?_
              refine WA.take (fuel := 10) 19 rfl (by kernel_rfl) (by kernel_rfl) (by kernel_rfl) (by kernel_rfl) rfl rfl hC ?_
              refine Q.off rfl ?_
              refine WQ.done ?_
              refine WA.take (fuel := 9) 20 rfl (by kernel_rfl) (by kernel_rfl) (by kernel_rfl) (by kernel_rfl) rfl rfl hC ?_
              refine Q.off rfl ?_
              refine WQ.done ?_
              refine WA.take (fuel := 8) 21 rfl (by kernel_rfl) (by kernel_rfl) (by kernel_rfl) (by kernel_rfl) rfl rfl hC ?_
              refine Q.off rfl ?_
              refine WQ.done ?_
              refine WA.take (fuel := 7) 22 rfl (by kernel_rfl) (by kernel_rfl) (by kernel_rfl) (by kernel_rfl) rfl rfl hC ?_
              refine Q.off rfl ?_
              refine WQ.done ?_
              refine WA.take (fuel := 6) 23 rfl (by kernel_rfl) (by kernel_rfl) (by kernel_rfl) (by kernel_rfl) rfl rfl hC ?_
              refine Q.off rfl ?_
              refine WQ.done ?_
              refine WA.two (fuel := 5) 13 24 rfl rfl (by kernel_rfl) rfl ?_ ?_
              ·
                skip
                refine S.off rfl ?_
                refine WS.done ⟨fun _ => ((hS6007).only (A := [_])), ?_⟩
                replace hC := ((hS6007).only (A := [_]))
                refine WA.two (fuel := 4) 14 24 rfl rfl (by kernel_rfl) rfl ?_ ?_
                ·
                  skip
                  refine S.off rfl ?_
                  refine WS.done ⟨fun _ => ((hS6007).only (A := [_])), ?_⟩
                  replace hC := ((hS6007).only (A := [_]))
                  refine WA.one (fuel := 3) 24 rfl (by kernel_rfl) rfl ?_
                  refine S.off rfl ?_
                  refine WS.done ⟨fun _ => ((hS6007).only (A := [_])), ?_⟩
                  replace hC := ((hS6007).only (A := [_]))
                  refine WA.one (fuel := 2) 25 rfl (by kernel_rfl) rfl ?_
                  refine S.off rfl ?_
                  refine WS.done ⟨fun _ => ((hS6007).only (A := [_])), ?_⟩
                  replace hC := ((hS6007).only (A := [_]))
                  refine WA.take (fuel := 1) 26 rfl (by kernel_rfl) (by kernel_rfl) (by kernel_rfl) (by kernel_rfl) rfl rfl hC ?_
                  refine Q.off rfl ?_
                  refine WQ.done ?_
                  refine WA.take (fuel := 0) 27 rfl (by kernel_rfl) (by kernel_rfl) (by kernel_rfl) (by kernel_rfl) rfl rfl hC ?_
                  refine Q.pickFC rfl rfl ?_
                  refine WQ.done ?_
                  refine WA.done (by kernel_rfl) ?_
                  clear hC
                  refine WR.condF rfl ?_
                  refine WR.skip ?_
                  refine WR.seq ?_
                  refine WR.region rfl ?_
                  refine S.moveT rfl ?_
                  refine S.moveT rfl ?_
                  refine S.call ent14 rfl (l15_Agree ((((hS6007.at_ (i := 0) rfl).at_ (i := 3) rfl).at_ (i := 3) rfl).at_ (i := 3) rfl) (by first | exact hI2.sett | exact hI2)) rfl ?_
                  rintro _ w136 ⟨rfl, hS136⟩
                  clear hS6007
                  refine S.not rfl rfl ?_
                  refine WS.done ?_
                  refine WR.condF rfl ?_
                  refine WR.skip ?_
                  refine WR.region rfl ?_
                  refine S.moveT rfl ?_
                  first
                    | refine S.addN rfl rfl rfl (by omega) ?_
                    | refine S.add rfl rfl rfl ?_
                  refine S.assignT rfl ?_
                  refine WS.done ?_
                  exact ⟨_, (by omega), ⟨i + 1, _, rfl, (by exact ⟨by omega, by first | exact hI2.sett | exact hI2⟩), rfl, ⟨rfl, rfl, rfl, rfl, rfl, trivial⟩, ((((hS136.at_ (i := 2) rfl).at_ (i := 2) rfl).at_ (i := 2) rfl).at_ (i := 3) rfl).drop⟩⟩
                ·
                  skip
                  refine S.off rfl ?_
                  refine WS.done ⟨fun _ => ((hS6007).only (A := [_])), ?_⟩
                  replace hC := ((hS6007).only (A := [_]))
                  refine WA.one (fuel := 3) 14 rfl (by kernel_rfl) rfl ?_
                  refine S.off rfl ?_
                  refine WS.done ⟨fun _ => ((hS6007).only (A := [_])), ?_⟩
                  replace hC := ((hS6007).only (A := [_]))
                  refine WA.one (fuel := 2) 25 rfl (by kernel_rfl) rfl ?_
                  refine S.off rfl ?_
                  refine WS.done ⟨fun _ => ((hS6007).only (A := [_])), ?_⟩
                  replace hC := ((hS6007).only (A := [_]))
                  refine WA.take (fuel := 1) 26 rfl (by kernel_rfl) (by kernel_rfl) (by kernel_rfl) (by kernel_rfl) rfl rfl hC ?_
                  refine Q.off rfl ?_
                  refine WQ.done ?_
                  refine WA.take (fuel := 0) 27 rfl (by kernel_rfl) (by kernel_rfl) (by kernel_rfl) (by kernel_rfl) rfl rfl hC ?_
                  refine Q.pickFC rfl rfl ?_
                  refine WQ.done ?_
                  refine WA.done (by kernel_rfl) ?_
                  clear hC
                  refine WR.condF rfl ?_
                  refine WR.skip ?_
                  refine WR.seq ?_
                  refine WR.region rfl ?_
                  refine S.moveT rfl ?_
                  refine S.moveT rfl ?_
                  refine S.call ent14 rfl (l15_Agree ((((hS6007.at_ (i := 0) rfl).at_ (i := 3) rfl).at_ (i := 3) rfl).at_ (i := 3) rfl) (by first | exact hI2.sett | exact hI2)) rfl ?_
                  rintro _ w136 ⟨rfl, hS136⟩
                  clear hS6007
                  refine S.not rfl rfl ?_
                  refine WS.done ?_
                  refine WR.condF rfl ?_
                  refine WR.skip ?_
                  refine WR.region rfl ?_
                  refine S.moveT rfl ?_
                  first
                    | refine S.addN rfl rfl rfl (by omega) ?_
                    | refine S.add rfl rfl rfl ?_
                  refine S.assignT rfl ?_
                  refine WS.done ?_
                  exact ⟨_, (by omega), ⟨i + 1, _, rfl, (by exact ⟨by omega, by first | exact hI2.sett | exact hI2⟩), rfl, ⟨rfl, rfl, rfl, rfl, rfl, trivial⟩, ((((hS136.at_ (i := 2) rfl).at_ (i := 2) rfl).at_ (i := 2) rfl).at_ (i := 3) rfl).drop⟩⟩
              ·
                skip
                refine S.off rfl ?_
                refine WS.done ⟨fun _ => ((hS6007).only (A := [_])), ?_⟩
                replace hC := ((hS6007).only (A := [_]))
                refine WA.one (fuel := 4) 13 rfl (by kernel_rfl) rfl ?_
                refine S.off rfl ?_
                refine WS.done ⟨fun _ => ((hS6007).only (A := [_])), ?_⟩
                replace hC := ((hS6007).only (A := [_]))
                refine WA.one (fuel := 3) 14 rfl (by kernel_rfl) rfl ?_
                refine S.off rfl ?_
                refine WS.done ⟨fun _ => ((hS6007).only (A := [_])), ?_⟩
                replace hC := ((hS6007).only (A := [_]))
                refine WA.one (fuel := 2) 25 rfl (by kernel_rfl) rfl ?_
                refine S.off rfl ?_
                refine WS.done ⟨fun _ => ((hS6007).only (A := [_])), ?_⟩
                replace hC := ((hS6007).only (A := [_]))
                refine WA.take (fuel := 1) 26 rfl (by kernel_rfl) (by kernel_rfl) (by kernel_rfl) (by kernel_rfl) rfl rfl hC ?_
                refine Q.off rfl ?_
                refine WQ.done ?_
                refine WA.take (fuel := 0) 27 rfl (by kernel_rfl) (by kernel_rfl) (by kernel_rfl) (by kernel_rfl) rfl rfl hC ?_
                refine Q.pickFC rfl rfl ?_
                refine WQ.done ?_
                refine WA.done (by kernel_rfl) ?_
                clear hC
                refine WR.condF rfl ?_
                refine WR.skip ?_
                refine WR.seq ?_
                refine WR.region rfl ?_
                refine S.moveT rfl ?_
                refine S.moveT rfl ?_
                refine S.call ent14 rfl (l15_Agree ((((hS6007.at_ (i := 0) rfl).at_ (i := 3) rfl).at_ (i := 3) rfl).at_ (i := 3) rfl) (by first | exact hI2.sett | exact hI2)) rfl ?_
                rintro _ w136 ⟨rfl, hS136⟩
                clear hS6007
                refine S.not rfl rfl ?_
                refine WS.done ?_
                refine WR.condF rfl ?_
                refine WR.skip ?_
                refine WR.region rfl ?_
                refine S.moveT rfl ?_
                first
                  | refine S.addN rfl rfl rfl (by omega) ?_
                  | refine S.add rfl rfl rfl ?_
                refine S.assignT rfl ?_
                refine WS.done ?_
                exact ⟨_, (by omega), ⟨i + 1, _, rfl, (by exact ⟨by omega, by first | exact hI2.sett | exact hI2⟩), rfl, ⟨rfl, rfl, rfl, rfl, rfl, trivial⟩, ((((hS136.at_ (i := 2) rfl).at_ (i := 2) rfl).at_ (i := 2) rfl).at_ (i := 3) rfl).drop⟩⟩
        ·
          skip
          refine WR.exit ?_
          refine WR.seq ?_
          refine WR.region rfl ?_
          refine S.moveT rfl ?_
          refine S.moveT rfl ?_
          refine S.call ent15 rfl (r_of hS1001 (by exact hfa)) rfl ?_
          rintro _ w141 ⟨rfl, hS141⟩
          clear hS1001
          refine S.moveT rfl ?_
          refine S.extract rfl rfl rfl ?_
          refine S.extract rfl rfl rfl ?_
          refine S.alloc hS141 ti34 rfl rfl ?_
          intro b21 w21 hS21; clear hS141
          refine S.storeB (i := 0) hS21 rfl ti34 rfl rfl rfl rfl rfl rfl rfl rfl ?_
          intro w2008 hS2008; clear hS21
          refine S.assignT rfl ?_
          refine WS.done ?_
          refine WR.seq ?_
          refine WR.region rfl ?_
          refine S.moveT rfl ?_
          refine S.moveT rfl ?_
          refine S.call ent16 rfl (s_of ((((hS2008.at_ (i := 2) rfl).at_ (i := 2) rfl).at_ (i := 2) rfl).at_ (i := 3) rfl) (by exact hI1)) rfl ?_
          rintro _ w146 ⟨rfl, hS146⟩
          clear hS2008
          refine S.alloc hS146 ti37 rfl rfl ?_
          intro b23 w23 hS23; clear hS146
          refine S.storeB (i := 0) hS23 rfl ti37 rfl rfl rfl rfl rfl rfl rfl rfl ?_
          intro w2009 hS2009; clear hS23
          refine WS.done ?_
          refine WR.seq ?_
          rcases Bool.eq_false_or_eq_true ((aget m a).isSome) with hk | hk
          ·
            rw [hk]
            refine WR.regionW (fun j => false) 26 rfl mixed hS2009 ?_
            intro w6010 hS6010; clear hS2009; have hC := hS6010
            refine WA.take (fuel := 25) 0 rfl (by kernel_rfl) (by kernel_rfl) (by kernel_rfl) (by kernel_rfl) rfl rfl hC ?_
            refine Q.loadBA (i := 2) rfl Try.underlying34 rfl ti34 rfl rfl rfl rfl ?_
            refine WQ.done ?_
            refine WA.take (fuel := 24) 2 rfl (by kernel_rfl) (by kernel_rfl) (by kernel_rfl) (by kernel_rfl) rfl rfl hC ?_
            refine Q.loadBA (i := 0) rfl Try.underlying37 rfl ti37 rfl rfl rfl rfl ?_
            refine WQ.done ?_
            refine WA.one (fuel := 23) 1 rfl (by kernel_rfl) rfl ?_
            refine S.call ent11 rfl (l15_of hS6010 ) rfl ?_
            rintro _ w148 ⟨rfl, hS148⟩
            clear hS6010
            refine WS.done ⟨fun _ => hS148, ?_⟩
            replace hC := hS148
            refine WA.take (fuel := 22) 3 rfl (by kernel_rfl) (by kernel_rfl) (by kernel_rfl) (by kernel_rfl) rfl rfl hC ?_
            refine Q.eqlS rfl rfl (by kernel_rfl) (Eq1.struct Try.underlying37 (by kernel_rfl) (EqF.cons (by decide) (Part1.one Try.underlying2 rfl rfl) (Part1.one Try.underlying2 rfl rfl) (Eq1.int Try.underlying2) (EqF.cons (by decide) (Part1.one Try.underlying2 rfl rfl) (Part1.one Try.underlying2 rfl rfl) (Eq1.int Try.underlying2) (EqF.one (by decide) (Part1.one Try.underlying2 rfl rfl) (Part1.one Try.underlying2 rfl rfl) (Eq1.int Try.underlying2))))) rfl ?_
            refine Q.isTD (d := 150) rfl (by exact ⟨rfl, rfl, rfl⟩) ?_
            refine WQ.done ?_
            refine WA.take (fuel := 21) 4 rfl (by kernel_rfl) (by kernel_rfl) (by kernel_rfl) (by kernel_rfl) rfl rfl hC ?_
            refine Q.moveT rfl ?_
            refine WQ.done ?_
            refine WA.take (fuel := 20) 5 rfl (by kernel_rfl) (by kernel_rfl) (by kernel_rfl) (by kernel_rfl) rfl rfl hC ?_
            refine Q.moveT rfl ?_
            refine WQ.done ?_
            refine WA.take (fuel := 19) 6 rfl (by kernel_rfl) (by kernel_rfl) (by kernel_rfl) (by kernel_rfl) rfl rfl hC ?_
            refine Q.fieldB Try.underlying37 rfl ti2 rfl rfl rfl rfl ?_
            refine WQ.done ?_
            refine WA.take (fuel := 18) 7 rfl (by kernel_rfl) (by kernel_rfl) (by kernel_rfl) (by kernel_rfl) rfl rfl hC ?_
            refine Q.loadB (i := 0) rfl Try.underlying2 rfl rfl rfl rfl ?_
            refine WQ.done ?_
            refine WA.take (fuel := 17) 8 rfl (by kernel_rfl) (by kernel_rfl) (by kernel_rfl) (by kernel_rfl) rfl rfl hC ?_
            refine Q.gtr rfl rfl rfl ?_
            refine WQ.done ?_
            refine WA.take (fuel := 16) 9 rfl (by kernel_rfl) (by kernel_rfl) (by kernel_rfl) (by kernel_rfl) rfl rfl hC ?_
            refine Q.eqlB Try.underlying4 rfl rfl rfl ?_
            refine Q.isB (d := 156) (c := true) rfl (by rw [show decide ((oldE m a).1 > 0) = _ from hI1.posB, hk]; rfl) ?_
            refine WQ.done ?_
            refine WA.take (fuel := 15) 10 rfl (by kernel_rfl) (by kernel_rfl) (by kernel_rfl) (by kernel_rfl) rfl rfl hC ?_
            refine Q.pickT rfl rfl ?_
            refine WQ.done ?_
            refine WA.take (fuel := 14) 11 rfl (by kernel_rfl) (by kernel_rfl) (by kernel_rfl) (by kernel_rfl) rfl rfl hC ?_
            refine Q.moveT rfl ?_
            refine WQ.done ?_
            refine WA.take (fuel := 13) 12 rfl (by kernel_rfl) (by kernel_rfl) (by kernel_rfl) (by kernel_rfl) rfl rfl hC ?_
            refine Q.moveT rfl ?_
            refine WQ.done ?_
            refine WA.take (fuel := 12) 13 rfl (by kernel_rfl) (by kernel_rfl) (by kernel_rfl) (by kernel_rfl) rfl rfl hC ?_
            refine Q.moveT rfl ?_
            refine WQ.done ?_
            refine WA.take (fuel := 11) 14 rfl (by kernel_rfl) (by kernel_rfl) (by kernel_rfl) (by kernel_rfl) rfl rfl hC ?_
            refine Q.moveT rfl ?_
            refine WQ.done ?_
            refine WA.take (fuel := 10) 16 rfl (by kernel_rfl) (by kernel_rfl) (by kernel_rfl) (by kernel_rfl) rfl rfl hC ?_
            refine Q.moveT rfl ?_
            refine WQ.done ?_
            refine WA.one (fuel := 9) 15 rfl (by kernel_rfl) rfl ?_
            refine S.call ent17 rfl (r_is (((((hS148.at_ (i := 2) rfl).at_ (i := 2) rfl).at_ (i := 2) rfl).at_ (i := 4) rfl).at_ (i := 4) rfl) (by exact hfa)) rfl ?_
            rintro _ w162 ⟨rfl, hS162⟩
            clear hS148
            refine WS.done ⟨fun _ => (((((hS162.at_ (i := 1) rfl).at_ (i := 1) rfl).at_ (i := 4) rfl).at_ (i := 4) rfl).at_ (i := 4) rfl), ?_⟩
            replace hC := (((((hS162.at_ (i := 1) rfl).at_ (i := 1) rfl).at_ (i := 4) rfl).at_ (i := 4) rfl).at_ (i := 4) rfl)
            refine WA.take (fuel := 8) 17 rfl (by kernel_rfl) (by kernel_rfl) (by kernel_rfl) (by kernel_rfl) rfl rfl hC ?_
            refine Q.moveT rfl ?_
            refine WQ.done ?_
            refine WA.take (fuel := 7) 18 rfl (by kernel_rfl) (by kernel_rfl) (by kernel_rfl) (by kernel_rfl) rfl rfl hC ?_
            refine Q.fieldB Try.underlying37 rfl ti2 rfl rfl rfl rfl ?_
            refine WQ.done ?_
            refine WA.take (fuel := 6) 19 rfl (by kernel_rfl) (by kernel_rfl) (by kernel_rfl) (by kernel_rfl) rfl rfl hC ?_
            refine Q.loadB (i := 0) rfl Try.underlying2 rfl rfl rfl rfl ?_
            refine WQ.done ?_
            refine WA.take (fuel := 5) 20 rfl (by kernel_rfl) (by kernel_rfl) (by kernel_rfl) (by kernel_rfl) rfl rfl hC ?_
            refine Q.moveT rfl ?_
            refine WQ.done ?_
            refine WA.take (fuel := 4) 21 rfl (by kernel_rfl) (by kernel_rfl) (by kernel_rfl) (by kernel_rfl) rfl rfl hC ?_
            refine Q.eql rfl rfl rfl ?_
            refine WQ.done ?_
            refine WA.take (fuel := 3) 22 rfl (by kernel_rfl) (by kernel_rfl) (by kernel_rfl) (by kernel_rfl) rfl rfl hC ?_
            refine Q.pickT rfl rfl ?_
            refine WQ.done ?_
            refine WA.take (fuel := 2) 23 rfl (by kernel_rfl) (by kernel_rfl) (by kernel_rfl) (by kernel_rfl) rfl rfl hC ?_
            refine Q.eqlB Try.underlying4 rfl rfl rfl ?_
            refine Q.isB (d := 170) (c := true) rfl (by simp [hk]) ?_
            refine WQ.done ?_
            refine WA.take (fuel := 1) 24 rfl (by kernel_rfl) (by kernel_rfl) (by kernel_rfl) (by kernel_rfl) rfl rfl hC ?_
            refine Q.pickT rfl rfl ?_
            refine WQ.done ?_
            refine WA.take (fuel := 0) 25 rfl (by kernel_rfl) (by kernel_rfl) (by kernel_rfl) (by kernel_rfl) rfl rfl hC ?_
            refine Q.assignT rfl ?_
            refine WQ.done ?_
            refine WA.done (by kernel_rfl) ?_
            clear hC
            refine WR.ret (ret1 rfl rfl ?_)
            exact ⟨rfl, hS162.drop.drop.drop.drop.drop⟩
          ·
            rw [hk]
            refine WR.regionW (fun j => false) 26 rfl mixed hS2009 ?_
            intro w6011 hS6011; clear hS2009; have hC := hS6011
            refine WA.take (fuel := 25) 0 rfl (by kernel_rfl) (by kernel_rfl) (by kernel_rfl) (by kernel_rfl) rfl rfl hC ?_
            refine Q.loadBA (i := 2) rfl Try.underlying34 rfl ti34 rfl rfl rfl rfl ?_
            refine WQ.done ?_
            refine WA.take (fuel := 24) 2 rfl (by kernel_rfl) (by kernel_rfl) (by kernel_rfl) (by kernel_rfl) rfl rfl hC ?_
            refine Q.loadBA (i := 0) rfl Try.underlying37 rfl ti37 rfl rfl rfl rfl ?_
            refine WQ.done ?_
            refine WA.one (fuel := 23) 1 rfl (by kernel_rfl) rfl ?_
            refine S.call ent11 rfl (l15_of hS6011 ) rfl ?_
            rintro _ w148 ⟨rfl, hS148⟩
            clear hS6011
            refine WS.done ⟨fun _ => hS148, ?_⟩
            replace hC := hS148
            refine WA.take (fuel := 22) 3 rfl (by kernel_rfl) (by kernel_rfl) (by kernel_rfl) (by kernel_rfl) rfl rfl hC ?_
            refine Q.eqlS rfl rfl (by kernel_rfl) (Eq1.struct Try.underlying37 (by kernel_rfl) (EqF.cons (by decide) (Part1.one Try.underlying2 rfl rfl) (Part1.one Try.underlying2 rfl rfl) (Eq1.int Try.underlying2) (EqF.cons (by decide) (Part1.one Try.underlying2 rfl rfl) (Part1.one Try.underlying2 rfl rfl) (Eq1.int Try.underlying2) (EqF.one (by decide) (Part1.one Try.underlying2 rfl rfl) (Part1.one Try.underlying2 rfl rfl) (Eq1.int Try.underlying2))))) rfl ?_
            refine Q.isTD (d := 150) rfl (by exact ⟨rfl, rfl, rfl⟩) ?_
            refine WQ.done ?_
            refine WA.take (fuel := 21) 4 rfl (by kernel_rfl) (by kernel_rfl) (by kernel_rfl) (by kernel_rfl) rfl rfl hC ?_
            refine Q.moveT rfl ?_
            refine WQ.done ?_
            refine WA.take (fuel := 20) 5 rfl (by kernel_rfl) (by kernel_rfl) (by kernel_rfl) (by kernel_rfl) rfl rfl hC ?_
            refine Q.moveT rfl ?_
            refine WQ.done ?_
            refine WA.take (fuel := 19) 6 rfl (by kernel_rfl) (by kernel_rfl) (by kernel_rfl) (by kernel_rfl) rfl rfl hC ?_
            refine Q.fieldB Try.underlying37 rfl ti2 rfl rfl rfl rfl ?_
            refine WQ.done ?_
            refine WA.take (fuel := 18) 7 rfl (by kernel_rfl) (by kernel_rfl) (by kernel_rfl) (by kernel_rfl) rfl rfl hC ?_
            refine Q.loadB (i := 0) rfl Try.underlying2 rfl rfl rfl rfl ?_
            refine WQ.done ?_
            refine WA.take (fuel := 17) 8 rfl (by kernel_rfl) (by kernel_rfl) (by kernel_rfl) (by kernel_rfl) rfl rfl hC ?_
            refine Q.gtr rfl rfl rfl ?_
            refine WQ.done ?_
            refine WA.take (fuel := 16) 9 rfl (by kernel_rfl) (by kernel_rfl) (by kernel_rfl) (by kernel_rfl) rfl rfl hC ?_
            refine Q.eqlB Try.underlying4 rfl rfl rfl ?_
            refine Q.isB (d := 156) (c := true) rfl (by rw [show decide ((oldE m a).1 > 0) = _ from hI1.posB, hk]; rfl) ?_
            refine WQ.done ?_
            refine WA.take (fuel := 15) 10 rfl (by kernel_rfl) (by kernel_rfl) (by kernel_rfl) (by kernel_rfl) rfl rfl hC ?_
            refine Q.pickT rfl rfl ?_
            refine WQ.done ?_
            refine WA.take (fuel := 14) 11 rfl (by kernel_rfl) (by kernel_rfl) (by kernel_rfl) (by kernel_rfl) rfl rfl hC ?_
            refine Q.moveT rfl ?_
            refine WQ.done ?_
            refine WA.take (fuel := 13) 12 rfl (by kernel_rfl) (by kernel_rfl) (by kernel_rfl) (by kernel_rfl) rfl rfl hC ?_
            refine Q.moveT rfl ?_
            refine WQ.done ?_
            refine WA.take (fuel := 12) 13 rfl (by kernel_rfl) (by kernel_rfl) (by kernel_rfl) (by kernel_rfl) rfl rfl hC ?_
            refine Q.moveT rfl ?_
            refine WQ.done ?_
            refine WA.take (fuel := 11) 14 rfl (by kernel_rfl) (by kernel_rfl) (by kernel_rfl) (by kernel_rfl) rfl rfl hC ?_
            refine Q.moveT rfl ?_
            refine WQ.done ?_
            refine WA.take (fuel := 10) 16 rfl (by kernel_rfl) (by kernel_rfl) (by kernel_rfl) (by kernel_rfl) rfl rfl hC ?_
            refine Q.moveT rfl ?_
            refine WQ.done ?_
            refine WA.one (fuel := 9) 15 rfl (by kernel_rfl) rfl ?_
            refine S.call ent17 rfl (r_is (((((hS148.at_ (i := 2) rfl).at_ (i := 2) rfl).at_ (i := 2) rfl).at_ (i := 4) rfl).at_ (i := 4) rfl) (by exact hfa)) rfl ?_
            rintro _ w162 ⟨rfl, hS162⟩
            clear hS148
            refine WS.done ⟨fun _ => (((((hS162.at_ (i := 1) rfl).at_ (i := 1) rfl).at_ (i := 4) rfl).at_ (i := 4) rfl).at_ (i := 4) rfl), ?_⟩
            replace hC := (((((hS162.at_ (i := 1) rfl).at_ (i := 1) rfl).at_ (i := 4) rfl).at_ (i := 4) rfl).at_ (i := 4) rfl)
            refine WA.take (fuel := 8) 17 rfl (by kernel_rfl) (by kernel_rfl) (by kernel_rfl) (by kernel_rfl) rfl rfl hC ?_
            refine Q.moveT rfl ?_
            refine WQ.done ?_
            refine WA.take (fuel := 7) 18 rfl (by kernel_rfl) (by kernel_rfl) (by kernel_rfl) (by kernel_rfl) rfl rfl hC ?_
            refine Q.off rfl ?_
            refine WQ.done ?_
            refine WA.take (fuel := 6) 19 rfl (by kernel_rfl) (by kernel_rfl) (by kernel_rfl) (by kernel_rfl) rfl rfl hC ?_
            refine Q.off rfl ?_
            refine WQ.done ?_
            refine WA.take (fuel := 5) 20 rfl (by kernel_rfl) (by kernel_rfl) (by kernel_rfl) (by kernel_rfl) rfl rfl hC ?_
            refine Q.off rfl ?_
            refine WQ.done ?_
            refine WA.take (fuel := 4) 21 rfl (by kernel_rfl) (by kernel_rfl) (by kernel_rfl) (by kernel_rfl) rfl rfl hC ?_
            refine Q.off rfl ?_
            refine WQ.done ?_
            refine WA.take (fuel := 3) 22 rfl (by kernel_rfl) (by kernel_rfl) (by kernel_rfl) (by kernel_rfl) rfl rfl hC ?_
            refine Q.pickFC rfl rfl ?_
            refine WQ.done ?_
            refine WA.take (fuel := 2) 23 rfl (by kernel_rfl) (by kernel_rfl) (by kernel_rfl) (by kernel_rfl) rfl rfl hC ?_
            refine Q.eqlB Try.underlying4 rfl rfl rfl ?_
            refine Q.isB (d := 170) (c := true) rfl (by simp [hk]) ?_
            refine WQ.done ?_
            refine WA.take (fuel := 1) 24 rfl (by kernel_rfl) (by kernel_rfl) (by kernel_rfl) (by kernel_rfl) rfl rfl hC ?_
            refine Q.pickT rfl rfl ?_
            refine WQ.done ?_
            refine WA.take (fuel := 0) 25 rfl (by kernel_rfl) (by kernel_rfl) (by kernel_rfl) (by kernel_rfl) rfl rfl hC ?_
            refine Q.assignT rfl ?_
            refine WQ.done ?_
            refine WA.done (by kernel_rfl) ?_
            clear hC
            refine WR.ret (ret1 rfl rfl ?_)
            exact ⟨rfl, hS162.drop.drop.drop.drop.drop⟩


end Go.Proofs.Ytiffedgmageiaaa.B

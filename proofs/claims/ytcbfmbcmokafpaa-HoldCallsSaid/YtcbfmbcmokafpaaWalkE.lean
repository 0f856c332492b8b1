import Derived.Test.YtcbfmbcmokafpaaWalkD
namespace Go.Proofs.Ytcbfmbcmokafpaa.B
open Go.Proofs Go.RowKit
set_option linter.unusedVariables false
set_option linter.unusedSimpArgs false
set_option maxRecDepth 100000 in
set_option maxHeartbeats 4000000 in
theorem law_HoldCalls {w : World} {R : Kn} {L : List HP}  (hS : St w R (L)) {n mo : Int} (hn : fits n) (hmo : fits mo) {vc : Value} {cs : List CallC} (hCC : RoC R vc cs) (hmc : cs.length ≤ 140737488355328) :
    Fn Try.prog 3 #[.int .i64 n, .int .i64 mo, vc] w (fun v w' => v = .bool true ∧ St w' R L) := by
  have hrc := hCC.row
  obtain ⟨ac, cc, rfl, hlc⟩ := hrc.len
  have hnf := id hn
  unfold fits at hnf
  have hmof := id hmo
  unfold fits at hmof
  refine Fn.intro (n := 139) Try.func3 rfl rfl rfl ?_
  refine WR.seq ?_
  refine WR.region rfl ?_
  refine S.assignC rfl ?_
  refine WS.done ?_
  refine WR.seq ?_
  refine WR.seq ?_
  refine WR.region rfl ?_
  refine S.call ent7 rfl (l13_alive hS ) rfl ?_
  rintro _ w18 ⟨rfl, hS18⟩
  clear hS
  refine S.not rfl rfl ?_
  refine WS.done ?_
  refine WR.condF rfl ?_
  refine WR.skip ?_
  refine WR.seq ?_
  refine WR.seq ?_
  refine WR.region rfl ?_
  refine S.moveT rfl ?_
  refine S.call ent8 rfl (l13_great hS18 (by exact hCC) (by exact hmc)) rfl ?_
  rintro _ w21 ⟨rfl, hS21⟩
  clear hS18
  refine WS.done ?_
  refine WR.cond rfl (fun c21 => ?_) (fun c21 => ?_)
  ·
    skip
    refine WR.seq ?_
    refine WR.region rfl ?_
    refine S.assignC rfl ?_
    refine WS.done ?_
    refine WR.ret (ret1 rfl rfl ?_)
    first | exact ⟨rfl, hS21⟩ | exact ⟨rfl, hS21.weak hR1⟩
  ·
    skip
    refine WR.skip ?_
    refine WR.seq ?_
    refine WR.region rfl ?_
    refine S.moveT rfl ?_
    refine S.moveT rfl ?_
    refine S.call ent9 rfl (h_new hS21 ) rfl ?_
    rintro v25 w25 hcs25
    clear hS21
    rcases hcs25 with ⟨hN25, rfl, hS25⟩ | ⟨hN25, bh25, bm25, rfl, hS25⟩
    ·
      skip
      refine S.moveT rfl ?_
      refine S.extract rfl rfl rfl ?_
      refine S.extract rfl rfl rfl ?_
      refine S.assignT rfl ?_
      refine S.assignT rfl ?_
      refine WS.done ?_
      refine WR.seq ?_
      refine WR.region rfl ?_
      refine S.moveT rfl ?_
      refine S.moveT rfl ?_
      refine S.call ent10 rfl (r_new hS25 ) rfl ?_
      rintro v31 w31 hcs31
      clear hS25
      rcases hcs31 with ⟨hN31, rfl, hS31⟩ | ⟨hN31, bh31, rfl, hS31⟩
      ·
        skip
        refine S.moveT rfl ?_
        refine S.extract rfl rfl rfl ?_
        refine S.extract rfl rfl rfl ?_
        refine S.assignT rfl ?_
        refine S.assignT rfl ?_
        refine WS.done ?_
        refine WR.seq ?_
        refine WR.seq ?_
        refine WR.region rfl ?_
        refine S.moveT rfl ?_
        refine S.moveT rfl ?_
        refine S.neq rfl rfl rfl ?_
        refine S.isFD (d := 36) rfl (by decide) ?_
        refine S.moveT rfl ?_
        refine S.moveT rfl ?_
        refine S.eqlNilT Try.underlying25 rfl rfl rfl ?_
        refine S.moveT rfl ?_
        refine S.eqlNilT Try.underlying29 rfl rfl rfl ?_
        refine S.neqB Try.underlying4 rfl rfl rfl ?_
        refine S.isB (d := 42) (c := false) rfl (by rfl) ?_
        refine S.pickF rfl rfl ?_
        refine WS.done ?_
        refine WR.condF rfl ?_
        refine WR.skip ?_
        refine WR.seq ?_
        refine WR.seq ?_
        refine WR.region rfl ?_
        refine S.moveT rfl ?_
        refine S.eqlNilT Try.underlying25 rfl rfl rfl ?_
        refine S.moveT rfl ?_
        refine S.off rfl ?_
        refine S.off rfl ?_
        refine S.pickTC rfl rfl ?_
        refine WS.done ?_
        refine WR.condT rfl ?_
        refine WR.seq ?_
        refine WR.region rfl ?_
        refine S.assignC rfl ?_
        refine WS.done ?_
        refine WR.ret (ret1 rfl rfl ?_)
        first | exact ⟨rfl, hS31⟩ | exact ⟨rfl, hS31.weak hR1⟩
      ·
        exfalso; omega
    ·
      skip
      refine S.moveT rfl ?_
      refine S.extract rfl rfl rfl ?_
      refine S.extract rfl rfl rfl ?_
      refine S.assignT rfl ?_
      refine S.assignT rfl ?_
      refine WS.done ?_
      refine WR.seq ?_
      refine WR.region rfl ?_
      refine S.moveT rfl ?_
      refine S.moveT rfl ?_
      refine S.call ent10 rfl (r_new hS25 ) rfl ?_
      rintro v31 w31 hcs31
      clear hS25
      rcases hcs31 with ⟨hN31, rfl, hS31⟩ | ⟨hN31, bh31, rfl, hS31⟩
      ·
        exfalso; omega
      ·
        skip
        have hI31 : HI n mo [] := HI.new (by omega) (by omega) (by omega) (by omega)
        refine S.moveT rfl ?_
        refine S.extract rfl rfl rfl ?_
        refine S.extract rfl rfl rfl ?_
        refine S.assignT rfl ?_
        refine S.assignT rfl ?_
        refine WS.done ?_
        refine WR.seq ?_
        refine WR.seq ?_
        refine WR.region rfl ?_
        refine S.moveT rfl ?_
        refine S.moveT rfl ?_
        refine S.neq rfl rfl rfl ?_
        refine S.isFD (d := 36) rfl (by decide) ?_
        refine S.moveT rfl ?_
        refine S.moveT rfl ?_
        refine S.eqlNil Try.underlying25 rfl rfl rfl ?_
        refine S.moveT rfl ?_
        refine S.eqlNil Try.underlying29 rfl rfl rfl ?_
        refine S.neqB Try.underlying4 rfl rfl rfl ?_
        refine S.isB (d := 42) (c := false) rfl (by rfl) ?_
        refine S.pickF rfl rfl ?_
        refine WS.done ?_
        refine WR.condF rfl ?_
        refine WR.skip ?_
        refine WR.seq ?_
        refine WR.seq ?_
        refine WR.region rfl ?_
        refine S.moveT rfl ?_
        refine S.eqlNil Try.underlying25 rfl rfl rfl ?_
        refine S.moveT rfl ?_
        refine S.moveT rfl ?_
        refine S.eqlNil Try.underlying29 rfl rfl rfl ?_
        refine S.pickF rfl rfl ?_
        refine WS.done ?_
        refine WR.condF rfl ?_
        refine WR.skip ?_
        refine WR.seq ?_
        refine WR.seq ?_
        obtain ⟨hc60, hc100⟩ := grt_false c21
        refine WR.region rfl ?_
        refine S.assignC rfl ?_
        refine WS.done ?_
        refine WR.block ?_
        refine WR.loopE (fun rq mm rr wr => ∃ (i : Nat) (n1 : Int) (m1 : List (Int × Int)) (R1 : Kn) (vr : Value), mm = cs.length - i ∧ (i ≤ cs.length ∧ HI n1 mo m1 ∧ R.le R1 ∧ Ro R1 gpE 2 vr m1) ∧ rr 11 = .int .i64 (i : Int) ∧ Agr [2, 7, 9] rr rq ∧ St wr R1 (blk bh25 (.cells (#[.int .i64 n1, .int .i64 mo, .map (some bm25)]) 51 (0, 0)) :: Mp Try.prog 2 bm25 (mE iE m1) :: blk bh31 (.cells (#[.int .i64 n1, .int .i64 mo, vr]) 44 (0, 0)) :: L)) ⟨0, n, [], R, _, rfl, (by exact ⟨by omega, hI31, Kn.le.refl _, Ro.nil⟩), rfl, ⟨rfl, rfl, rfl, trivial⟩, (((hS31.at_ (i := 0) rfl).at_ (i := 2) rfl).at_ (i := 2) rfl)⟩ ?_
        rintro mm rr w1001 ⟨i, n1, m1, R1, vr, hm1001, ⟨hi, hI1, hR1, hroj⟩, hr1001_11, hA1001, hS1001⟩
        obtain ⟨rr, rfl⟩ := agrBack hA1001
        clear hA1001
        obtain ⟨rr, rfl⟩ := back1 (r := rr) hr1001_11
        clear hr1001_11
        have hCC := hCC.mono hR1
        have hrc := hCC.row
        obtain ⟨aj, cj, rfl, hlj⟩ := hroj.len
        refine WR.seq ?_
        refine WR.seq ?_
        refine WR.region rfl ?_
        refine S.moveT rfl ?_
        refine S.moveT rfl ?_
        refine S.lenSl Try.underlying22 rfl rfl ?_
        refine S.lss rfl rfl rfl ?_
        refine WS.done ?_
        refine WR.condD rfl (fun c53 => ?_) (fun c53 => ?_)
        ·
          skip
          refine WR.skip ?_
          refine WR.seq ?_
          refine WR.block ?_
          refine WR.cutE (J := fun rq rr wr => ∃ (n2 : Int) (m2 : List (Int × Int)) (R2 : Kn) (vr2 : Value), (HI n2 mo m2 ∧ R1.le R2 ∧ Ro R2 gpE 2 vr2 m2) ∧ Agr [2, 7, 9, 11] rr rq ∧ St wr R2 (blk bh25 (.cells (#[.int .i64 n2, .int .i64 mo, .map (some bm25)]) 51 (0, 0)) :: Mp Try.prog 2 bm25 (mE iE m2) :: blk bh31 (.cells (#[.int .i64 n2, .int .i64 mo, vr2]) 44 (0, 0)) :: L)) ?_ ?_
          ·
            skip
            refine WR.seq ?_
            refine WR.region rfl ?_
            refine S.moveT rfl ?_
            refine S.moveT rfl ?_
            refine S.indexRo hrc Try.underlying22 ti34 rfl rfl (by omega) rfl ?_
            intro ad58 u58 hu58 hl58 hc58
            refine S.fieldElt Try.underlying34 rfl ti3 rfl rfl rfl ?_
            refine S.loadRoF hS1001 hc58 rfl Try.underlying3 rfl rfl rfl ?_
            refine WS.done ?_
            refine WR.block ?_
            refine WR.seq ?_
            refine WR.region rfl ?_
            refine S.eql rfl rfl rfl ?_
            refine S.assignT rfl ?_
            refine WS.done ?_
            refine WR.condD rfl (fun c61 => ?_) (fun c61 => ?_)
            ·
              skip
              refine WR.seq ?_
              refine WR.region rfl ?_
              refine S.moveT rfl ?_
              refine S.moveT rfl ?_
              refine S.indexRo hrc Try.underlying22 ti34 rfl rfl (by omega) rfl ?_
              intro ad65 u65 hu65 hl65 hc65
              refine S.fieldElt Try.underlying34 rfl ti32 rfl rfl rfl ?_
              refine S.loadRoF hS1001 hc65 rfl Try.underlying32 rfl rfl rfl ?_
              refine S.call ent11 rfl (r_copyLongs hS1001 (by exact (hCC.each _ (List.mem_of_getElem? hu65)).1) (by have := hc100 _ (List.mem_of_getElem? hu65); omega)) rfl ?_
              rintro v68 w68 hS68
              clear hS1001
              refine S.assignT rfl ?_
              refine WS.done ?_
              refine WR.seq ?_
              refine WR.region rfl ?_
              refine S.moveT rfl ?_
              refine S.moveT rfl ?_
              refine S.moveT rfl ?_
              refine S.indexRo hrc Try.underlying22 ti34 rfl rfl (by omega) rfl ?_
              intro ad73 u73 hu73 hl73 hc73
              obtain rfl : u65 = u73 := Option.some.inj (hu65.symm.trans hu73)
              refine S.fieldElt Try.underlying34 rfl ti2 rfl rfl rfl ?_
              refine S.loadRoF hS68 hc73 rfl Try.underlying2 rfl rfl rfl ?_
              refine S.moveT rfl ?_
              have hEu := hCC.each _ (List.mem_of_getElem? hu65)
              have hcu := hc100 _ (List.mem_of_getElem? hu65)
              obtain ⟨Rl, hRl, hrol, hSl, hback⟩ := hS68.lendRow (fun _ _ => rfl)
              refine S.call ent12 rfl (h_offer hSl (by exact hI1) (by exact hEu.2.2.1) (by exact hrol) (by exact hEu.2.2.2.1) (by omega)) rfl ?_
              rintro _ w77 ⟨v77, rfl, hS77⟩
              clear hS68
              obtain ⟨Rb, hRb, hSb⟩ := hback _ _ _ (Kn.le.refl _) hS77
              clear hS77 hback hSl hrol hRl
              replace hCC := hCC.mono hRb
              replace hroj := hroj.mono hRb
              replace hrc := hrc.mono hRb
              skip
              refine S.moveT rfl ?_
              refine S.extract rfl rfl rfl ?_
              refine S.extract rfl rfl rfl ?_
              refine S.assignT rfl ?_
              refine S.assignT rfl ?_
              refine WS.done ?_
              refine WR.seq ?_
              refine WR.regionW (fun j => Nat.beq j 11 || Nat.beq j 12 || Nat.beq j 13 || Nat.beq j 14 || Nat.beq j 15 || Nat.beq j 16) 17 rfl mixed hSb ?_
              intro w6002 hS6002; clear hSb; have hC := hS6002
              refine WA.takeP (fuel := 16) 0 rfl (by kernel_rfl) (by kernel_rfl) (by kernel_rfl) rfl rfl ?_
              refine Q.moveT rfl ?_
              refine WQ.done ?_
              refine WA.takeP (fuel := 15) 1 rfl (by kernel_rfl) (by kernel_rfl) (by kernel_rfl) rfl rfl ?_
              refine Q.moveT rfl ?_
              refine WQ.done ?_
              refine WA.takeP (fuel := 14) 2 rfl (by kernel_rfl) (by kernel_rfl) (by kernel_rfl) rfl rfl ?_
              refine Q.moveT rfl ?_
              refine WQ.done ?_
              refine WA.takeP (fuel := 13) 6 rfl (by kernel_rfl) (by kernel_rfl) (by kernel_rfl) rfl rfl ?_
              refine Q.moveT rfl ?_
              refine WQ.done ?_
              refine WA.takeP (fuel := 12) 7 rfl (by kernel_rfl) (by kernel_rfl) (by kernel_rfl) rfl rfl ?_
              refine Q.moveT rfl ?_
              refine WQ.done ?_
              refine WA.two (fuel := 11) 3 8 rfl rfl (by kernel_rfl) rfl ?_ ?_
              ·
                skip
                refine S.indexRo hrc Try.underlying22 ti34 rfl rfl (by omega) rfl ?_
                intro ad84 u84 hu84 hl84 hc84
                obtain rfl : u65 = u84 := Option.some.inj (hu65.symm.trans hu84)
                refine WS.done ⟨fun _ => hS6002, ?_⟩
                replace hC := hS6002
                refine WA.two (fuel := 10) 4 8 rfl rfl (by kernel_rfl) rfl ?_ ?_
                ·
                  skip
                  refine S.fieldElt Try.underlying34 rfl ti2 rfl rfl rfl ?_
                  refine WS.done ⟨fun _ => hS6002, ?_⟩
                  replace hC := hS6002
                  refine WA.two (fuel := 9) 5 8 rfl rfl (by kernel_rfl) rfl ?_ ?_
                  ·
                    skip
                    refine S.loadRoF hS6002 hc84 rfl Try.underlying2 rfl rfl rfl ?_
                    refine WS.done ⟨fun _ => hS6002, ?_⟩
                    replace hC := hS6002
                    refine WA.one (fuel := 8) 8 rfl (by kernel_rfl) rfl ?_
                    refine S.indexRo hrc Try.underlying22 ti34 rfl rfl (by omega) rfl ?_
                    intro ad89 u89 hu89 hl89 hc89
                    obtain rfl : u65 = u89 := Option.some.inj (hu65.symm.trans hu89)
                    refine WS.done ⟨fun _ => hS6002, ?_⟩
                    replace hC := hS6002
                    refine WA.one (fuel := 7) 9 rfl (by kernel_rfl) rfl ?_
                    refine S.fieldElt Try.underlying34 rfl ti32 rfl rfl rfl ?_
                    refine WS.done ⟨fun _ => hS6002, ?_⟩
                    replace hC := hS6002
                    refine WA.one (fuel := 6) 10 rfl (by kernel_rfl) rfl ?_
                    refine S.loadRoF hS6002 hc89 rfl Try.underlying32 rfl rfl rfl ?_
                    refine WS.done ⟨fun _ => hS6002, ?_⟩
                    replace hC := hS6002
                    refine WA.one (fuel := 5) 11 rfl (by kernel_rfl) rfl ?_
                    refine S.call ent13 rfl (r_offer (((((hS6002.at_ (i := 3) rfl).at_ (i := 3) rfl).at_ (i := 3) rfl).at_ (i := 3) rfl).at_ (i := 4) rfl) (by exact hroj) (by exact hI1) (by exact hEu.2.2.1) (by exact hEu.1.mono hRb) (by exact hEu.2.2.2.1) (by omega)) rfl ?_
                    rintro _ w92 ⟨v92, R92, vr92, rfl, hR92, hro92, hS92⟩
                    clear hS6002
                    replace hrc := hrc.mono hR92
                    replace hroj := hroj.mono hR92
                    refine WS.done ⟨fun h => absurd h (by decide), ?_⟩
                    refine WA.one (fuel := 4) 12 rfl (by kernel_rfl) rfl ?_
                    refine S.moveT rfl ?_
                    refine WS.done ⟨fun h => absurd h (by decide), ?_⟩
                    refine WA.takeP (fuel := 3) 13 rfl (by kernel_rfl) (by kernel_rfl) (by kernel_rfl) rfl rfl ?_
                    refine Q.extract rfl rfl rfl ?_
                    refine WQ.done ?_
                    refine WA.takeP (fuel := 2) 14 rfl (by kernel_rfl) (by kernel_rfl) (by kernel_rfl) rfl rfl ?_
                    refine Q.extract rfl rfl rfl ?_
                    refine WQ.done ?_
                    refine WA.one (fuel := 1) 15 rfl (by kernel_rfl) rfl ?_
                    refine S.assignT rfl ?_
                    refine WS.done ⟨fun h => absurd h (by decide), ?_⟩
                    refine WA.one (fuel := 0) 16 rfl (by kernel_rfl) rfl ?_
                    refine S.assignT rfl ?_
                    refine WS.done ⟨fun h => absurd h (by decide), ?_⟩
                    refine WA.done (by kernel_rfl) ?_
                    clear hC
                    refine WR.seq ?_
                    refine WR.seq ?_
                    refine WR.region rfl ?_
                    refine S.assignC rfl ?_
                    refine WS.done ?_
                    refine WR.block ?_
                    refine WR.loopE (fun rq mm rr wr => ∃ (q : Nat) (ys : List Int), mm = ys.length - q ∧ (q ≤ ys.length ∧ ys.length = u65.items.length) ∧ rr 17 = .int .i64 (q : Int) ∧ Agr [2, 7, 9, 11, 12, 13, 14, 15, 16] rr rq ∧ St wr R92 (Ow 2 (encI .i64) 1 v68 ys :: Ow 2 (encI .i64) 1 v77 (offer n1 mo m1 u65.first u65.items).1 :: Ow 2 (encI .i64) 1 v92 (offer n1 mo m1 u65.first u65.items).1 :: blk bh25 (.cells (#[.int .i64 (offer n1 mo m1 u65.first u65.items).2.2.1, .int .i64 mo, .map (some bm25)]) 51 (0, 0)) :: Mp Try.prog 2 bm25 (mE iE (offer n1 mo m1 u65.first u65.items).2.2.2) :: blk bh31 (.cells (#[.int .i64 (offer n1 mo m1 u65.first u65.items).2.2.1, .int .i64 mo, vr92]) 44 (0, 0)) :: L)) ⟨0, _, rfl, (by exact ⟨by omega, rfl⟩), rfl, ⟨rfl, rfl, rfl, rfl, rfl, rfl, rfl, rfl, rfl, trivial⟩, ((((((hS92.at_ (i := 1) rfl).at_ (i := 5) rfl).at_ (i := 5) rfl).at_ (i := 3) rfl).at_ (i := 5) rfl).at_ (i := 5) rfl)⟩ ?_
                    rintro mm rr w1002 ⟨q, ys, hm1002, ⟨hq, hyl⟩, hr1002_17, hA1002, hS1002⟩
                    obtain ⟨rr, rfl⟩ := agrBack hA1002
                    clear hA1002
                    obtain ⟨rr, rfl⟩ := back1 (r := rr) hr1002_17
                    clear hr1002_17
                    obtain ⟨ay, cy, rfl⟩ := hS1002.rowLen
                    refine WR.seq ?_
                    refine WR.seq ?_
                    refine WR.region rfl ?_
                    refine S.moveT rfl ?_
                    refine S.moveT rfl ?_
                    refine S.lenSl Try.underlying32 rfl rfl ?_
                    refine S.lss rfl rfl rfl ?_
                    refine WS.done ?_
                    refine WR.condD rfl (fun c98 => ?_) (fun c98 => ?_)
                    ·
                      skip
                      refine WR.skip ?_
                      refine WR.seq ?_
                      refine WR.block ?_
                      refine WR.region rfl ?_
                      refine S.moveT rfl ?_
                      refine S.moveT rfl ?_
                      refine S.indexOw (i := 0) hS1002 rfl Try.underlying32 ti2 rfl rfl (by omega) rfl ?_
                      refine S.loadOw (i := 0) hS1002 rfl (fun _ _ => rfl) Try.underlying2 rfl rfl (List.getElem?_eq_getElem (by omega)) rfl rfl ?_
                      first
                        | refine S.addN rfl rfl rfl (by omega) ?_
                        | refine S.add rfl rfl rfl ?_
                      refine S.indexOw (i := 0) hS1002 rfl Try.underlying32 ti2 rfl rfl (by omega) rfl ?_
                      refine S.storeOw (i := 0) hS1002 rfl (fun _ _ => rfl) ti2 rfl (by omega) rfl rfl rfl rfl rfl ?_
                      intro w2003 hS2003; clear hS1002
                      refine WS.done ?_
                      refine WR.region rfl ?_
                      refine S.moveT rfl ?_
                      first
                        | refine S.addN rfl rfl rfl (by omega) ?_
                        | refine S.add rfl rfl rfl ?_
                      refine S.assignT rfl ?_
                      refine WS.done ?_
                      exact ⟨_, (by rw [List.length_set]; omega), ⟨q + 1, _, rfl, (by exact ⟨by rw [List.length_set]; omega, by rw [List.length_set]; exact hyl⟩), rfl, ⟨rfl, rfl, rfl, rfl, rfl, rfl, rfl, rfl, rfl, trivial⟩, hS2003⟩⟩
                    ·
                      skip
                      refine WR.exit ?_
                      refine WR.seq ?_
                      obtain ⟨RA, hRA, hroA, hSA⟩ := (hS1002.at_ (i := 1) rfl).freeze (fun _ _ => rfl)
                      obtain ⟨RB, hRB, hroB, hSB⟩ := (hSA.at_ (i := 1) rfl).freeze (fun _ _ => rfl)
                      replace hroA := hroA.mono hRB
                      replace hro92 := hro92.mono (hRA.trans hRB)
                      refine WR.region rfl ?_
                      refine S.moveT rfl ?_
                      refine S.moveT rfl ?_
                      refine S.neq rfl rfl rfl ?_
                      refine S.isFD (d := 109) rfl (by simp) ?_
                      refine S.moveT rfl ?_
                      refine S.moveT rfl ?_
                      refine S.moveT rfl ?_
                      refine S.call ent14 rfl (u_same hSB (by exact hroA) (by exact hroB) (by have := (hI1.offer (first := u65.first) (xs := u65.items) (by omega) hEu.2.2.2.1).2.2.1; omega)) rfl ?_
                      rintro _ w113 ⟨rfl, hS113⟩
                      clear hSB
                      refine S.isTD (d := 113) rfl (by rfl) ?_
                      refine S.not rfl rfl ?_
                      refine S.pickF rfl rfl ?_
                      refine WS.done ?_
                      refine WR.condF rfl ?_
                      refine WR.skip ?_
                      exact ⟨_, _, _, _, (by first | exact ⟨(hI1.offer (by omega) hEu.2.2.2.1).1, (by repeat (first | assumption | exact Kn.le.refl _ | refine Kn.le.trans ?_ (by assumption))), hro92⟩ | exact ⟨hI1.nil, (by repeat (first | assumption | exact Kn.le.refl _ | refine Kn.le.trans ?_ (by assumption))), Ro.nil⟩ | exact ⟨hI1, (by repeat (first | assumption | exact Kn.le.refl _ | refine Kn.le.trans ?_ (by assumption))), hroj⟩), ⟨rfl, rfl, rfl, rfl, trivial⟩, hS113.drop⟩
                  ·
                    skip
                    refine S.indexRo hrc Try.underlying22 ti34 rfl rfl (by omega) rfl ?_
                    intro ad89 u89 hu89 hl89 hc89
                    obtain rfl : u65 = u89 := Option.some.inj (hu65.symm.trans hu89)
                    refine WS.done ⟨fun _ => hS6002, ?_⟩
                    replace hC := hS6002
                    refine WA.two (fuel := 8) 5 9 rfl rfl (by kernel_rfl) rfl ?_ ?_
                    ·
                      skip
                      refine S.loadRoF hS6002 hc84 rfl Try.underlying2 rfl rfl rfl ?_
                      refine WS.done ⟨fun _ => hS6002, ?_⟩
                      replace hC := hS6002
                      refine WA.one (fuel := 7) 9 rfl (by kernel_rfl) rfl ?_
                      refine S.fieldElt Try.underlying34 rfl ti32 rfl rfl rfl ?_
                      refine WS.done ⟨fun _ => hS6002, ?_⟩
                      replace hC := hS6002
                      refine WA.one (fuel := 6) 10 rfl (by kernel_rfl) rfl ?_
                      refine S.loadRoF hS6002 hc89 rfl Try.underlying32 rfl rfl rfl ?_
                      refine WS.done ⟨fun _ => hS6002, ?_⟩
                      replace hC := hS6002
                      refine WA.one (fuel := 5) 11 rfl (by kernel_rfl) rfl ?_
                      refine S.call ent13 rfl (r_offer (((((hS6002.at_ (i := 3) rfl).at_ (i := 3) rfl).at_ (i := 3) rfl).at_ (i := 3) rfl).at_ (i := 4) rfl) (by exact hroj) (by exact hI1) (by exact hEu.2.2.1) (by exact hEu.1.mono hRb) (by exact hEu.2.2.2.1) (by omega)) rfl ?_
                      rintro _ w92 ⟨v92, R92, vr92, rfl, hR92, hro92, hS92⟩
                      clear hS6002
                      replace hrc := hrc.mono hR92
                      replace hroj := hroj.mono hR92
                      refine WS.done ⟨fun h => absurd h (by decide), ?_⟩
                      refine WA.one (fuel := 4) 12 rfl (by kernel_rfl) rfl ?_
                      refine S.moveT rfl ?_
                      refine WS.done ⟨fun h => absurd h (by decide), ?_⟩
                      refine WA.takeP (fuel := 3) 13 rfl (by kernel_rfl) (by kernel_rfl) (by kernel_rfl) rfl rfl ?_
                      refine Q.extract rfl rfl rfl ?_
                      refine WQ.done ?_
                      refine WA.takeP (fuel := 2) 14 rfl (by kernel_rfl) (by kernel_rfl) (by kernel_rfl) rfl rfl ?_
                      refine Q.extract rfl rfl rfl ?_
                      refine WQ.done ?_
                      refine WA.one (fuel := 1) 15 rfl (by kernel_rfl) rfl ?_
                      refine S.assignT rfl ?_
                      refine WS.done ⟨fun h => absurd h (by decide), ?_⟩
                      refine WA.one (fuel := 0) 16 rfl (by kernel_rfl) rfl ?_
                      refine S.assignT rfl ?_
                      refine WS.done ⟨fun h => absurd h (by decide), ?_⟩
                      refine WA.done (by kernel_rfl) ?_
                      clear hC
                      refine WR.seq ?_
                      refine WR.seq ?_
                      refine WR.region rfl ?_
                      refine S.assignC rfl ?_
                      refine WS.done ?_
                      refine WR.block ?_
                      refine WR.loopE (fun rq mm rr wr => ∃ (q : Nat) (ys : List Int), mm = ys.length - q ∧ (q ≤ ys.length ∧ ys.length = u65.items.length) ∧ rr 17 = .int .i64 (q : Int) ∧ Agr [2, 7, 9, 11, 12, 13, 14, 15, 16] rr rq ∧ St wr R92 (Ow 2 (encI .i64) 1 v68 ys :: Ow 2 (encI .i64) 1 v77 (offer n1 mo m1 u65.first u65.items).1 :: Ow 2 (encI .i64) 1 v92 (offer n1 mo m1 u65.first u65.items).1 :: blk bh25 (.cells (#[.int .i64 (offer n1 mo m1 u65.first u65.items).2.2.1, .int .i64 mo, .map (some bm25)]) 51 (0, 0)) :: Mp Try.prog 2 bm25 (mE iE (offer n1 mo m1 u65.first u65.items).2.2.2) :: blk bh31 (.cells (#[.int .i64 (offer n1 mo m1 u65.first u65.items).2.2.1, .int .i64 mo, vr92]) 44 (0, 0)) :: L)) ⟨0, _, rfl, (by exact ⟨by omega, rfl⟩), rfl, ⟨rfl, rfl, rfl, rfl, rfl, rfl, rfl, rfl, rfl, trivial⟩, ((((((hS92.at_ (i := 1) rfl).at_ (i := 5) rfl).at_ (i := 5) rfl).at_ (i := 3) rfl).at_ (i := 5) rfl).at_ (i := 5) rfl)⟩ ?_
                      rintro mm rr w1002 ⟨q, ys, hm1002, ⟨hq, hyl⟩, hr1002_17, hA1002, hS1002⟩
                      obtain ⟨rr, rfl⟩ := agrBack hA1002
                      clear hA1002
                      obtain ⟨rr, rfl⟩ := back1 (r := rr) hr1002_17
                      clear hr1002_17
                      obtain ⟨ay, cy, rfl⟩ := hS1002.rowLen
                      refine WR.seq ?_
                      refine WR.seq ?_
                      refine WR.region rfl ?_
                      refine S.moveT rfl ?_
                      refine S.moveT rfl ?_
                      refine S.lenSl Try.underlying32 rfl rfl ?_
                      refine S.lss rfl rfl rfl ?_
                      refine WS.done ?_
                      refine WR.condD rfl (fun c98 => ?_) (fun c98 => ?_)
                      ·
                        skip
                        refine WR.skip ?_
                        refine WR.seq ?_
                        refine WR.block ?_
                        refine WR.region rfl ?_
                        refine S.moveT rfl ?_
                        refine S.moveT rfl ?_
                        refine S.indexOw (i := 0) hS1002 rfl Try.underlying32 ti2 rfl rfl (by omega) rfl ?_
                        refine S.loadOw (i := 0) hS1002 rfl (fun _ _ => rfl) Try.underlying2 rfl rfl (List.getElem?_eq_getElem (by omega)) rfl rfl ?_
                        first
                          | refine S.addN rfl rfl rfl (by omega) ?_
                          | refine S.add rfl rfl rfl ?_
                        refine S.indexOw (i := 0) hS1002 rfl Try.underlying32 ti2 rfl rfl (by omega) rfl ?_
                        refine S.storeOw (i := 0) hS1002 rfl (fun _ _ => rfl) ti2 rfl (by omega) rfl rfl rfl rfl rfl ?_
                        intro w2004 hS2004; clear hS1002
                        refine WS.done ?_
                        refine WR.region rfl ?_
                        refine S.moveT rfl ?_
                        first
                          | refine S.addN rfl rfl rfl (by omega) ?_
                          | refine S.add rfl rfl rfl ?_
                        refine S.assignT rfl ?_
                        refine WS.done ?_
                        exact ⟨_, (by rw [List.length_set]; omega), ⟨q + 1, _, rfl, (by exact ⟨by rw [List.length_set]; omega, by rw [List.length_set]; exact hyl⟩), rfl, ⟨rfl, rfl, rfl, rfl, rfl, rfl, rfl, rfl, rfl, trivial⟩, hS2004⟩⟩
                      ·
                        skip
                        refine WR.exit ?_
                        refine WR.seq ?_
                        obtain ⟨RA, hRA, hroA, hSA⟩ := (hS1002.at_ (i := 1) rfl).freeze (fun _ _ => rfl)
                        obtain ⟨RB, hRB, hroB, hSB⟩ := (hSA.at_ (i := 1) rfl).freeze (fun _ _ => rfl)
                        replace hroA := hroA.mono hRB
                        replace hro92 := hro92.mono (hRA.trans hRB)
                        refine WR.region rfl ?_
                        refine S.moveT rfl ?_
                        refine S.moveT rfl ?_
                        refine S.neq rfl rfl rfl ?_
                        refine S.isFD (d := 109) rfl (by simp) ?_
                        refine S.moveT rfl ?_
                        refine S.moveT rfl ?_
                        refine S.moveT rfl ?_
                        refine S.call ent14 rfl (u_same hSB (by exact hroA) (by exact hroB) (by have := (hI1.offer (first := u65.first) (xs := u65.items) (by omega) hEu.2.2.2.1).2.2.1; omega)) rfl ?_
                        rintro _ w113 ⟨rfl, hS113⟩
                        clear hSB
                        refine S.isTD (d := 113) rfl (by rfl) ?_
                        refine S.not rfl rfl ?_
                        refine S.pickF rfl rfl ?_
                        refine WS.done ?_
                        refine WR.condF rfl ?_
                        refine WR.skip ?_
                        exact ⟨_, _, _, _, (by first | exact ⟨(hI1.offer (by omega) hEu.2.2.2.1).1, (by repeat (first | assumption | exact Kn.le.refl _ | refine Kn.le.trans ?_ (by assumption))), hro92⟩ | exact ⟨hI1.nil, (by repeat (first | assumption | exact Kn.le.refl _ | refine Kn.le.trans ?_ (by assumption))), Ro.nil⟩ | exact ⟨hI1, (by repeat (first | assumption | exact Kn.le.refl _ | refine Kn.le.trans ?_ (by assumption))), hroj⟩), ⟨rfl, rfl, rfl, rfl, trivial⟩, hS113.drop⟩
                    ·
                      skip
                      refine S.fieldElt Try.underlying34 rfl ti32 rfl rfl rfl ?_
                      refine WS.done ⟨fun _ => hS6002, ?_⟩
                      replace hC := hS6002
                      refine WA.two (fuel := 7) 5 10 rfl rfl (by kernel_rfl) rfl ?_ ?_
                      ·
                        skip
                        refine S.loadRoF hS6002 hc84 rfl Try.underlying2 rfl rfl rfl ?_
                        refine WS.done ⟨fun _ => hS6002, ?_⟩
                        replace hC := hS6002
                        refine WA.one (fuel := 6) 10 rfl (by kernel_rfl) rfl ?_
                        refine S.loadRoF hS6002 hc89 rfl Try.underlying32 rfl rfl rfl ?_
                        refine WS.done ⟨fun _ => hS6002, ?_⟩
                        replace hC := hS6002
                        refine WA.one (fuel := 5) 11 rfl (by kernel_rfl) rfl ?_
                        refine S.call ent13 rfl (r_offer (((((hS6002.at_ (i := 3) rfl).at_ (i := 3) rfl).at_ (i := 3) rfl).at_ (i := 3) rfl).at_ (i := 4) rfl) (by exact hroj) (by exact hI1) (by exact hEu.2.2.1) (by exact hEu.1.mono hRb) (by exact hEu.2.2.2.1) (by omega)) rfl ?_
                        rintro _ w92 ⟨v92, R92, vr92, rfl, hR92, hro92, hS92⟩
                        clear hS6002
                        replace hrc := hrc.mono hR92
                        replace hroj := hroj.mono hR92
                        refine WS.done ⟨fun h => absurd h (by decide), ?_⟩
                        refine WA.one (fuel := 4) 12 rfl (by kernel_rfl) rfl ?_
                        refine S.moveT rfl ?_
                        refine WS.done ⟨fun h => absurd h (by decide), ?_⟩
                        refine WA.takeP (fuel := 3) 13 rfl (by kernel_rfl) (by kernel_rfl) (by kernel_rfl) rfl rfl ?_
                        refine Q.extract rfl rfl rfl ?_
                        refine WQ.done ?_
                        refine WA.takeP (fuel := 2) 14 rfl (by kernel_rfl) (by kernel_rfl) (by kernel_rfl) rfl rfl ?_
                        refine Q.extract rfl rfl rfl ?_
                        refine WQ.done ?_
                        refine WA.one (fuel := 1) 15 rfl (by kernel_rfl) rfl ?_
                        refine S.assignT rfl ?_
                        refine WS.done ⟨fun h => absurd h (by decide), ?_⟩
                        refine WA.one (fuel := 0) 16 rfl (by kernel_rfl) rfl ?_
                        refine S.assignT rfl ?_
                        refine WS.done ⟨fun h => absurd h (by decide), ?_⟩
                        refine WA.done (by kernel_rfl) ?_
                        clear hC
                        refine WR.seq ?_
                        refine WR.seq ?_
                        refine WR.region rfl ?_
                        refine S.assignC rfl ?_
                        refine WS.done ?_
                        refine WR.block ?_
                        refine WR.loopE (fun rq mm rr wr => ∃ (q : Nat) (ys : List Int), mm = ys.length - q ∧ (q ≤ ys.length ∧ ys.length = u65.items.length) ∧ rr 17 = .int .i64 (q : Int) ∧ Agr [2, 7, 9, 11, 12, 13, 14, 15, 16] rr rq ∧ St wr R92 (Ow 2 (encI .i64) 1 v68 ys :: Ow 2 (encI .i64) 1 v77 (offer n1 mo m1 u65.first u65.items).1 :: Ow 2 (encI .i64) 1 v92 (offer n1 mo m1 u65.first u65.items).1 :: blk bh25 (.cells (#[.int .i64 (offer n1 mo m1 u65.first u65.items).2.2.1, .int .i64 mo, .map (some bm25)]) 51 (0, 0)) :: Mp Try.prog 2 bm25 (mE iE (offer n1 mo m1 u65.first u65.items).2.2.2) :: blk bh31 (.cells (#[.int .i64 (offer n1 mo m1 u65.first u65.items).2.2.1, .int .i64 mo, vr92]) 44 (0, 0)) :: L)) ⟨0, _, rfl, (by exact ⟨by omega, rfl⟩), rfl, ⟨rfl, rfl, rfl, rfl, rfl, rfl, rfl, rfl, rfl, trivial⟩, ((((((hS92.at_ (i := 1) rfl).at_ (i := 5) rfl).at_ (i := 5) rfl).at_ (i := 3) rfl).at_ (i := 5) rfl).at_ (i := 5) rfl)⟩ ?_
                        rintro mm rr w1002 ⟨q, ys, hm1002, ⟨hq, hyl⟩, hr1002_17, hA1002, hS1002⟩
                        obtain ⟨rr, rfl⟩ := agrBack hA1002
                        clear hA1002
                        obtain ⟨rr, rfl⟩ := back1 (r := rr) hr1002_17
                        clear hr1002_17
                        obtain ⟨ay, cy, rfl⟩ := hS1002.rowLen
                        refine WR.seq ?_
                        refine WR.seq ?_
                        refine WR.region rfl ?_
                        refine S.moveT rfl ?_
                        refine S.moveT rfl ?_
                        refine S.lenSl Try.underlying32 rfl rfl ?_
                        refine S.lss rfl rfl rfl ?_
                        refine WS.done ?_
                        refine WR.condD rfl (fun c98 => ?_) (fun c98 => ?_)
                        ·
                          skip
                          refine WR.skip ?_
                          refine WR.seq ?_
                          refine WR.block ?_
                          refine WR.region rfl ?_
                          refine S.moveT rfl ?_
                          refine S.moveT rfl ?_
                          refine S.indexOw (i := 0) hS1002 rfl Try.underlying32 ti2 rfl rfl (by omega) rfl ?_
                          refine S.loadOw (i := 0) hS1002 rfl (fun _ _ => rfl) Try.underlying2 rfl rfl (List.getElem?_eq_getElem (by omega)) rfl rfl ?_
                          first
                            | refine S.addN rfl rfl rfl (by omega) ?_
                            | refine S.add rfl rfl rfl ?_
                          refine S.indexOw (i := 0) hS1002 rfl Try.underlying32 ti2 rfl rfl (by omega) rfl ?_
                          refine S.storeOw (i := 0) hS1002 rfl (fun _ _ => rfl) ti2 rfl (by omega) rfl rfl rfl rfl rfl ?_
                          intro w2005 hS2005; clear hS1002
                          refine WS.done ?_
                          refine WR.region rfl ?_
                          refine S.moveT rfl ?_
                          first
                            | refine S.addN rfl rfl rfl (by omega) ?_
                            | refine S.add rfl rfl rfl ?_
                          refine S.assignT rfl ?_
                          refine WS.done ?_
                          exact ⟨_, (by rw [List.length_set]; omega), ⟨q + 1, _, rfl, (by exact ⟨by rw [List.length_set]; omega, by rw [List.length_set]; exact hyl⟩), rfl, ⟨rfl, rfl, rfl, rfl, rfl, rfl, rfl, rfl, rfl, trivial⟩, hS2005⟩⟩
                        ·
                          skip
                          refine WR.exit ?_
                          refine WR.seq ?_
                          obtain ⟨RA, hRA, hroA, hSA⟩ := (hS1002.at_ (i := 1) rfl).freeze (fun _ _ => rfl)
                          obtain ⟨RB, hRB, hroB, hSB⟩ := (hSA.at_ (i := 1) rfl).freeze (fun _ _ => rfl)
                          replace hroA := hroA.mono hRB
                          replace hro92 := hro92.mono (hRA.trans hRB)
                          refine WR.region rfl ?_
                          refine S.moveT rfl ?_
                          refine S.moveT rfl ?_
                          refine S.neq rfl rfl rfl ?_
                          refine S.isFD (d := 109) rfl (by simp) ?_
                          refine S.moveT rfl ?_
                          refine S.moveT rfl ?_
                          refine S.moveT rfl ?_
                          refine S.call ent14 rfl (u_same hSB (by exact hroA) (by exact hroB) (by have := (hI1.offer (first := u65.first) (xs := u65.items) (by omega) hEu.2.2.2.1).2.2.1; omega)) rfl ?_
                          rintro _ w113 ⟨rfl, hS113⟩
                          clear hSB
                          refine S.isTD (d := 113) rfl (by rfl) ?_
                          refine S.not rfl rfl ?_
                          refine S.pickF rfl rfl ?_
                          refine WS.done ?_
                          refine WR.condF rfl ?_
                          refine WR.skip ?_
                          exact ⟨_, _, _, _, (by first | exact ⟨(hI1.offer (by omega) hEu.2.2.2.1).1, (by repeat (first | assumption | exact Kn.le.refl _ | refine Kn.le.trans ?_ (by assumption))), hro92⟩ | exact ⟨hI1.nil, (by repeat (first | assumption | exact Kn.le.refl _ | refine Kn.le.trans ?_ (by assumption))), Ro.nil⟩ | exact ⟨hI1, (by repeat (first | assumption | exact Kn.le.refl _ | refine Kn.le.trans ?_ (by assumption))), hroj⟩), ⟨rfl, rfl, rfl, rfl, trivial⟩, hS113.drop⟩
                      ·
                        skip
                        refine S.loadRoF hS6002 hc89 rfl Try.underlying32 rfl rfl rfl ?_
                        refine WS.done ⟨fun _ => hS6002, ?_⟩
                        replace hC := hS6002
                        refine WA.one (fuel := 6) 5 rfl (by kernel_rfl) rfl ?_
                        refine S.loadRoF hS6002 hc84 rfl Try.underlying2 rfl rfl rfl ?_
                        refine WS.done ⟨fun _ => hS6002, ?_⟩
                        replace hC := hS6002
                        refine WA.one (fuel := 5) 11 rfl (by kernel_rfl) rfl ?_
                        refine S.call ent13 rfl (r_offer (((((hS6002.at_ (i := 3) rfl).at_ (i := 3) rfl).at_ (i := 3) rfl).at_ (i := 3) rfl).at_ (i := 4) rfl) (by exact hroj) (by exact hI1) (by exact hEu.2.2.1) (by exact hEu.1.mono hRb) (by exact hEu.2.2.2.1) (by omega)) rfl ?_
                        rintro _ w92 ⟨v92, R92, vr92, rfl, hR92, hro92, hS92⟩
                        clear hS6002
                        replace hrc := hrc.mono hR92
                        replace hroj := hroj.mono hR92
                        refine WS.done ⟨fun h => absurd h (by decide), ?_⟩
                        refine WA.one (fuel := 4) 12 rfl (by kernel_rfl) rfl ?_
                        refine S.moveT rfl ?_
                        refine WS.done ⟨fun h => absurd h (by decide), ?_⟩
                        refine WA.takeP (fuel := 3) 13 rfl (by kernel_rfl) (by kernel_rfl) (by kernel_rfl) rfl rfl ?_
                        refine Q.extract rfl rfl rfl ?_
                        refine WQ.done ?_
                        refine WA.takeP (fuel := 2) 14 rfl (by kernel_rfl) (by kernel_rfl) (by kernel_rfl) rfl rfl ?_
                        refine Q.extract rfl rfl rfl ?_
                        refine WQ.done ?_
                        refine WA.one (fuel := 1) 15 rfl (by kernel_rfl) rfl ?_
                        refine S.assignT rfl ?_
                        refine WS.done ⟨fun h => absurd h (by decide), ?_⟩
                        refine WA.one (fuel := 0) 16 rfl (by kernel_rfl) rfl ?_
                        refine S.assignT rfl ?_
                        refine WS.done ⟨fun h => absurd h (by decide), ?_⟩
                        refine WA.done (by kernel_rfl) ?_
                        clear hC
                        refine WR.seq ?_
                        refine WR.seq ?_
                        refine WR.region rfl ?_
                        refine S.assignC rfl ?_
                        refine WS.done ?_
                        refine WR.block ?_
                        refine WR.loopE (fun rq mm rr wr => ∃ (q : Nat) (ys : List Int), mm = ys.length - q ∧ (q ≤ ys.length ∧ ys.length = u65.items.length) ∧ rr 17 = .int .i64 (q : Int) ∧ Agr [2, 7, 9, 11, 12, 13, 14, 15, 16] rr rq ∧ St wr R92 (Ow 2 (encI .i64) 1 v68 ys :: Ow 2 (encI .i64) 1 v77 (offer n1 mo m1 u65.first u65.items).1 :: Ow 2 (encI .i64) 1 v92 (offer n1 mo m1 u65.first u65.items).1 :: blk bh25 (.cells (#[.int .i64 (offer n1 mo m1 u65.first u65.items).2.2.1, .int .i64 mo, .map (some bm25)]) 51 (0, 0)) :: Mp Try.prog 2 bm25 (mE iE (offer n1 mo m1 u65.first u65.items).2.2.2) :: blk bh31 (.cells (#[.int .i64 (offer n1 mo m1 u65.first u65.items).2.2.1, .int .i64 mo, vr92]) 44 (0, 0)) :: L)) ⟨0, _, rfl, (by exact ⟨by omega, rfl⟩), rfl, ⟨rfl, rfl, rfl, rfl, rfl, rfl, rfl, rfl, rfl, trivial⟩, ((((((hS92.at_ (i := 1) rfl).at_ (i := 5) rfl).at_ (i := 5) rfl).at_ (i := 3) rfl).at_ (i := 5) rfl).at_ (i := 5) rfl)⟩ ?_
                        rintro mm rr w1002 ⟨q, ys, hm1002, ⟨hq, hyl⟩, hr1002_17, hA1002, hS1002⟩
                        obtain ⟨rr, rfl⟩ := agrBack hA1002
                        clear hA1002
                        obtain ⟨rr, rfl⟩ := back1 (r := rr) hr1002_17
                        clear hr1002_17
                        obtain ⟨ay, cy, rfl⟩ := hS1002.rowLen
                        refine WR.seq ?_
                        refine WR.seq ?_
                        refine WR.region rfl ?_
                        refine S.moveT rfl ?_
                        refine S.moveT rfl ?_
                        refine S.lenSl Try.underlying32 rfl rfl ?_
                        refine S.lss rfl rfl rfl ?_
                        refine WS.done ?_
                        refine WR.condD rfl (fun c98 => ?_) (fun c98 => ?_)
                        ·
                          skip
                          refine WR.skip ?_
                          refine WR.seq ?_
                          refine WR.block ?_
                          refine WR.region rfl ?_
                          refine S.moveT rfl ?_
                          refine S.moveT rfl ?_
                          refine S.indexOw (i := 0) hS1002 rfl Try.underlying32 ti2 rfl rfl (by omega) rfl ?_
                          refine S.loadOw (i := 0) hS1002 rfl (fun _ _ => rfl) Try.underlying2 rfl rfl (List.getElem?_eq_getElem (by omega)) rfl rfl ?_
                          first
                            | refine S.addN rfl rfl rfl (by omega) ?_
                            | refine S.add rfl rfl rfl ?_
                          refine S.indexOw (i := 0) hS1002 rfl Try.underlying32 ti2 rfl rfl (by omega) rfl ?_
                          refine S.storeOw (i := 0) hS1002 rfl (fun _ _ => rfl) ti2 rfl (by omega) rfl rfl rfl rfl rfl ?_
                          intro w2006 hS2006; clear hS1002
                          refine WS.done ?_
                          refine WR.region rfl ?_
                          refine S.moveT rfl ?_
                          first
                            | refine S.addN rfl rfl rfl (by omega) ?_
                            | refine S.add rfl rfl rfl ?_
                          refine S.assignT rfl ?_
                          refine WS.done ?_
                          exact ⟨_, (by rw [List.length_set]; omega), ⟨q + 1, _, rfl, (by exact ⟨by rw [List.length_set]; omega, by rw [List.length_set]; exact hyl⟩), rfl, ⟨rfl, rfl, rfl, rfl, rfl, rfl, rfl, rfl, rfl, trivial⟩, hS2006⟩⟩
                        ·
                          skip
                          refine WR.exit ?_
                          refine WR.seq ?_
                          obtain ⟨RA, hRA, hroA, hSA⟩ := (hS1002.at_ (i := 1) rfl).freeze (fun _ _ => rfl)
                          obtain ⟨RB, hRB, hroB, hSB⟩ := (hSA.at_ (i := 1) rfl).freeze (fun _ _ => rfl)
                          replace hroA := hroA.mono hRB
                          replace hro92 := hro92.mono (hRA.trans hRB)
                          refine WR.region rfl ?_
                          refine S.moveT rfl ?_
                          refine S.moveT rfl ?_
                          refine S.neq rfl rfl rfl ?_
                          refine S.isFD (d := 109) rfl (by simp) ?_
                          refine S.moveT rfl ?_
                          refine S.moveT rfl ?_
                          refine S.moveT rfl ?_
                          refine S.call ent14 rfl (u_same hSB (by exact hroA) (by exact hroB) (by have := (hI1.offer (first := u65.first) (xs := u65.items) (by omega) hEu.2.2.2.1).2.2.1; omega)) rfl ?_
                          rintro _ w113 ⟨rfl, hS113⟩
                          clear hSB
                          refine S.isTD (d := 113) rfl (by rfl) ?_
                          refine S.not rfl rfl ?_
                          refine S.pickF rfl rfl ?_
                          refine WS.done ?_
                          refine WR.condF rfl ?_
                          refine WR.skip ?_
                          exact ⟨_, _, _, _, (by first | exact ⟨(hI1.offer (by omega) hEu.2.2.2.1).1, (by repeat (first | assumption | exact Kn.le.refl _ | refine Kn.le.trans ?_ (by assumption))), hro92⟩ | exact ⟨hI1.nil, (by repeat (first | assumption | exact Kn.le.refl _ | refine Kn.le.trans ?_ (by assumption))), Ro.nil⟩ | exact ⟨hI1, (by repeat (first | assumption | exact Kn.le.refl _ | refine Kn.le.trans ?_ (by assumption))), hroj⟩), ⟨rfl, rfl, rfl, rfl, trivial⟩, hS113.drop⟩
                ·
                  skip
                  refine S.indexRo hrc Try.underlying22 ti34 rfl rfl (by omega) rfl ?_
                  intro ad89 u89 hu89 hl89 hc89
                  obtain rfl : u65 = u89 := Option.some.inj (hu65.symm.trans hu89)
                  refine WS.done ⟨fun _ => hS6002, ?_⟩
                  replace hC := hS6002
                  refine WA.two (fuel := 9) 4 9 rfl rfl (by kernel_rfl) rfl ?_ ?_
                  ·
                    skip
                    refine S.fieldElt Try.underlying34 rfl ti2 rfl rfl rfl ?_
                    refine WS.done ⟨fun _ => hS6002, ?_⟩
                    replace hC := hS6002
                    refine WA.two (fuel := 8) 5 9 rfl rfl (by kernel_rfl) rfl ?_ ?_
                    ·
                      skip
                      refine S.loadRoF hS6002 hc84 rfl Try.underlying2 rfl rfl rfl ?_
                      refine WS.done ⟨fun _ => hS6002, ?_⟩
                      replace hC := hS6002
                      refine WA.one (fuel := 7) 9 rfl (by kernel_rfl) rfl ?_
                      refine S.fieldElt Try.underlying34 rfl ti32 rfl rfl rfl ?_
                      refine WS.done ⟨fun _ => hS6002, ?_⟩
                      replace hC := hS6002
                      refine WA.one (fuel := 6) 10 rfl (by kernel_rfl) rfl ?_
                      refine S.loadRoF hS6002 hc89 rfl Try.underlying32 rfl rfl rfl ?_
                      refine WS.done ⟨fun _ => hS6002, ?_⟩
                      replace hC := hS6002
                      refine WA.one (fuel := 5) 11 rfl (by kernel_rfl) rfl ?_
                      refine S.call ent13 rfl (r_offer (((((hS6002.at_ (i := 3) rfl).at_ (i := 3) rfl).at_ (i := 3) rfl).at_ (i := 3) rfl).at_ (i := 4) rfl) (by exact hroj) (by exact hI1) (by exact hEu.2.2.1) (by exact hEu.1.mono hRb) (by exact hEu.2.2.2.1) (by omega)) rfl ?_
                      rintro _ w92 ⟨v92, R92, vr92, rfl, hR92, hro92, hS92⟩
                      clear hS6002
                      replace hrc := hrc.mono hR92
                      replace hroj := hroj.mono hR92
                      refine WS.done ⟨fun h => absurd h (by decide), ?_⟩
                      refine WA.one (fuel := 4) 12 rfl (by kernel_rfl) rfl ?_
                      refine S.moveT rfl ?_
                      refine WS.done ⟨fun h => absurd h (by decide), ?_⟩
                      refine WA.takeP (fuel := 3) 13 rfl (by kernel_rfl) (by kernel_rfl) (by kernel_rfl) rfl rfl ?_
                      refine Q.extract rfl rfl rfl ?_
                      refine WQ.done ?_
                      refine WA.takeP (fuel := 2) 14 rfl (by kernel_rfl) (by kernel_rfl) (by kernel_rfl) rfl rfl ?_
                      refine Q.extract rfl rfl rfl ?_
                      refine WQ.done ?_
                      refine WA.one (fuel := 1) 15 rfl (by kernel_rfl) rfl ?_
                      refine S.assignT rfl ?_
                      refine WS.done ⟨fun h => absurd h (by decide), ?_⟩
                      refine WA.one (fuel := 0) 16 rfl (by kernel_rfl) rfl ?_
                      refine S.assignT rfl ?_
                      refine WS.done ⟨fun h => absurd h (by decide), ?_⟩
                      refine WA.done (by kernel_rfl) ?_
                      clear hC
                      refine WR.seq ?_
                      refine WR.seq ?_
                      refine WR.region rfl ?_
                      refine S.assignC rfl ?_
                      refine WS.done ?_
                      refine WR.block ?_
                      refine WR.loopE (fun rq mm rr wr => ∃ (q : Nat) (ys : List Int), mm = ys.length - q ∧ (q ≤ ys.length ∧ ys.length = u65.items.length) ∧ rr 17 = .int .i64 (q : Int) ∧ Agr [2, 7, 9, 11, 12, 13, 14, 15, 16] rr rq ∧ St wr R92 (Ow 2 (encI .i64) 1 v68 ys :: Ow 2 (encI .i64) 1 v77 (offer n1 mo m1 u65.first u65.items).1 :: Ow 2 (encI .i64) 1 v92 (offer n1 mo m1 u65.first u65.items).1 :: blk bh25 (.cells (#[.int .i64 (offer n1 mo m1 u65.first u65.items).2.2.1, .int .i64 mo, .map (some bm25)]) 51 (0, 0)) :: Mp Try.prog 2 bm25 (mE iE (offer n1 mo m1 u65.first u65.items).2.2.2) :: blk bh31 (.cells (#[.int .i64 (offer n1 mo m1 u65.first u65.items).2.2.1, .int .i64 mo, vr92]) 44 (0, 0)) :: L)) ⟨0, _, rfl, (by exact ⟨by omega, rfl⟩), rfl, ⟨rfl, rfl, rfl, rfl, rfl, rfl, rfl, rfl, rfl, trivial⟩, ((((((hS92.at_ (i := 1) rfl).at_ (i := 5) rfl).at_ (i := 5) rfl).at_ (i := 3) rfl).at_ (i := 5) rfl).at_ (i := 5) rfl)⟩ ?_
                      rintro mm rr w1002 ⟨q, ys, hm1002, ⟨hq, hyl⟩, hr1002_17, hA1002, hS1002⟩
                      obtain ⟨rr, rfl⟩ := agrBack hA1002
                      clear hA1002
                      obtain ⟨rr, rfl⟩ := back1 (r := rr) hr1002_17
                      clear hr1002_17
                      obtain ⟨ay, cy, rfl⟩ := hS1002.rowLen
                      refine WR.seq ?_
                      refine WR.seq ?_
                      refine WR.region rfl ?_
                      refine S.moveT rfl ?_
                      refine S.moveT rfl ?_
                      refine S.lenSl Try.underlying32 rfl rfl ?_
                      refine S.lss rfl rfl rfl ?_
                      refine WS.done ?_
                      refine WR.condD rfl (fun c98 => ?_) (fun c98 => ?_)
                      ·
                        skip
                        refine WR.skip ?_
                        refine WR.seq ?_
                        refine WR.block ?_
                        refine WR.region rfl ?_
                        refine S.moveT rfl ?_
                        refine S.moveT rfl ?_
                        refine S.indexOw (i := 0) hS1002 rfl Try.underlying32 ti2 rfl rfl (by omega) rfl ?_
                        refine S.loadOw (i := 0) hS1002 rfl (fun _ _ => rfl) Try.underlying2 rfl rfl (List.getElem?_eq_getElem (by omega)) rfl rfl ?_
                        first
                          | refine S.addN rfl rfl rfl (by omega) ?_
                          | refine S.add rfl rfl rfl ?_
                        refine S.indexOw (i := 0) hS1002 rfl Try.underlying32 ti2 rfl rfl (by omega) rfl ?_
                        refine S.storeOw (i := 0) hS1002 rfl (fun _ _ => rfl) ti2 rfl (by omega) rfl rfl rfl rfl rfl ?_
                        intro w2007 hS2007; clear hS1002
                        refine WS.done ?_
                        refine WR.region rfl ?_
                        refine S.moveT rfl ?_
                        first
                          | refine S.addN rfl rfl rfl (by omega) ?_
                          | refine S.add rfl rfl rfl ?_
                        refine S.assignT rfl ?_
                        refine WS.done ?_
                        exact ⟨_, (by rw [List.length_set]; omega), ⟨q + 1, _, rfl, (by exact ⟨by rw [List.length_set]; omega, by rw [List.length_set]; exact hyl⟩), rfl, ⟨rfl, rfl, rfl, rfl, rfl, rfl, rfl, rfl, rfl, trivial⟩, hS2007⟩⟩
                      ·
                        skip
                        refine WR.exit ?_
                        refine WR.seq ?_
                        obtain ⟨RA, hRA, hroA, hSA⟩ := (hS1002.at_ (i := 1) rfl).freeze (fun _ _ => rfl)
                        obtain ⟨RB, hRB, hroB, hSB⟩ := (hSA.at_ (i := 1) rfl).freeze (fun _ _ => rfl)
                        replace hroA := hroA.mono hRB
                        replace hro92 := hro92.mono (hRA.trans hRB)
                        refine WR.region rfl ?_
                        refine S.moveT rfl ?_
                        refine S.moveT rfl ?_
                        refine S.neq rfl rfl rfl ?_
                        refine S.isFD (d := 109) rfl (by simp) ?_
                        refine S.moveT rfl ?_
                        refine S.moveT rfl ?_
                        refine S.moveT rfl ?_
                        refine S.call ent14 rfl (u_same hSB (by exact hroA) (by exact hroB) (by have := (hI1.offer (first := u65.first) (xs := u65.items) (by omega) hEu.2.2.2.1).2.2.1; omega)) rfl ?_
                        rintro _ w113 ⟨rfl, hS113⟩
                        clear hSB
                        refine S.isTD (d := 113) rfl (by rfl) ?_
                        refine S.not rfl rfl ?_
                        refine S.pickF rfl rfl ?_
                        refine WS.done ?_
                        refine WR.condF rfl ?_
                        refine WR.skip ?_
                        exact ⟨_, _, _, _, (by first | exact ⟨(hI1.offer (by omega) hEu.2.2.2.1).1, (by repeat (first | assumption | exact Kn.le.refl _ | refine Kn.le.trans ?_ (by assumption))), hro92⟩ | exact ⟨hI1.nil, (by repeat (first | assumption | exact Kn.le.refl _ | refine Kn.le.trans ?_ (by assumption))), Ro.nil⟩ | exact ⟨hI1, (by repeat (first | assumption | exact Kn.le.refl _ | refine Kn.le.trans ?_ (by assumption))), hroj⟩), ⟨rfl, rfl, rfl, rfl, trivial⟩, hS113.drop⟩
                    ·
                      skip
                      refine S.fieldElt Try.underlying34 rfl ti32 rfl rfl rfl ?_
                      refine WS.done ⟨fun _ => hS6002, ?_⟩
                      replace hC := hS6002
                      refine WA.two (fuel := 7) 5 10 rfl rfl (by kernel_rfl) rfl ?_ ?_
                      ·
                        skip
                        refine S.loadRoF hS6002 hc84 rfl Try.underlying2 rfl rfl rfl ?_
                        refine WS.done ⟨fun _ => hS6002, ?_⟩
                        replace hC := hS6002
                        refine WA.one (fuel := 6) 10 rfl (by kernel_rfl) rfl ?_
                        refine S.loadRoF hS6002 hc89 rfl Try.underlying32 rfl rfl rfl ?_
                        refine WS.done ⟨fun _ => hS6002, ?_⟩
                        replace hC := hS6002
                        refine WA.one (fuel := 5) 11 rfl (by kernel_rfl) rfl ?_
                        refine S.call ent13 rfl (r_offer (((((hS6002.at_ (i := 3) rfl).at_ (i := 3) rfl).at_ (i := 3) rfl).at_ (i := 3) rfl).at_ (i := 4) rfl) (by exact hroj) (by exact hI1) (by exact hEu.2.2.1) (by exact hEu.1.mono hRb) (by exact hEu.2.2.2.1) (by omega)) rfl ?_
                        rintro _ w92 ⟨v92, R92, vr92, rfl, hR92, hro92, hS92⟩
                        clear hS6002
                        replace hrc := hrc.mono hR92
                        replace hroj := hroj.mono hR92
                        refine WS.done ⟨fun h => absurd h (by decide), ?_⟩
                        refine WA.one (fuel := 4) 12 rfl (by kernel_rfl) rfl ?_
                        refine S.moveT rfl ?_
                        refine WS.done ⟨fun h => absurd h (by decide), ?_⟩
                        refine WA.takeP (fuel := 3) 13 rfl (by kernel_rfl) (by kernel_rfl) (by kernel_rfl) rfl rfl ?_
                        refine Q.extract rfl rfl rfl ?_
                        refine WQ.done ?_
                        refine WA.takeP (fuel := 2) 14 rfl (by kernel_rfl) (by kernel_rfl) (by kernel_rfl) rfl rfl ?_
                        refine Q.extract rfl rfl rfl ?_
                        refine WQ.done ?_
                        refine WA.one (fuel := 1) 15 rfl (by kernel_rfl) rfl ?_
                        refine S.assignT rfl ?_
                        refine WS.done ⟨fun h => absurd h (by decide), ?_⟩
                        refine WA.one (fuel := 0) 16 rfl (by kernel_rfl) rfl ?_
                        refine S.assignT rfl ?_
                        refine WS.done ⟨fun h => absurd h (by decide), ?_⟩
                        refine WA.done (by kernel_rfl) ?_
                        clear hC
                        refine WR.seq ?_
                        refine WR.seq ?_
                        refine WR.region rfl ?_
                        refine S.assignC rfl ?_
                        refine WS.done ?_
                        refine WR.block ?_
                        refine WR.loopE (fun rq mm rr wr => ∃ (q : Nat) (ys : List Int), mm = ys.length - q ∧ (q ≤ ys.length ∧ ys.length = u65.items.length) ∧ rr 17 = .int .i64 (q : Int) ∧ Agr [2, 7, 9, 11, 12, 13, 14, 15, 16] rr rq ∧ St wr R92 (Ow 2 (encI .i64) 1 v68 ys :: Ow 2 (encI .i64) 1 v77 (offer n1 mo m1 u65.first u65.items).1 :: Ow 2 (encI .i64) 1 v92 (offer n1 mo m1 u65.first u65.items).1 :: blk bh25 (.cells (#[.int .i64 (offer n1 mo m1 u65.first u65.items).2.2.1, .int .i64 mo, .map (some bm25)]) 51 (0, 0)) :: Mp Try.prog 2 bm25 (mE iE (offer n1 mo m1 u65.first u65.items).2.2.2) :: blk bh31 (.cells (#[.int .i64 (offer n1 mo m1 u65.first u65.items).2.2.1, .int .i64 mo, vr92]) 44 (0, 0)) :: L)) ⟨0, _, rfl, (by exact ⟨by omega, rfl⟩), rfl, ⟨rfl, rfl, rfl, rfl, rfl, rfl, rfl, rfl, rfl, trivial⟩, ((((((hS92.at_ (i := 1) rfl).at_ (i := 5) rfl).at_ (i := 5) rfl).at_ (i := 3) rfl).at_ (i := 5) rfl).at_ (i := 5) rfl)⟩ ?_
                        rintro mm rr w1002 ⟨q, ys, hm1002, ⟨hq, hyl⟩, hr1002_17, hA1002, hS1002⟩
                        obtain ⟨rr, rfl⟩ := agrBack hA1002
                        clear hA1002
                        obtain ⟨rr, rfl⟩ := back1 (r := rr) hr1002_17
                        clear hr1002_17
                        obtain ⟨ay, cy, rfl⟩ := hS1002.rowLen
                        refine WR.seq ?_
                        refine WR.seq ?_
                        refine WR.region rfl ?_
                        refine S.moveT rfl ?_
                        refine S.moveT rfl ?_
                        refine S.lenSl Try.underlying32 rfl rfl ?_
                        refine S.lss rfl rfl rfl ?_
                        refine WS.done ?_
                        refine WR.condD rfl (fun c98 => ?_) (fun c98 => ?_)
                        ·
                          skip
                          refine WR.skip ?_
                          refine WR.seq ?_
                          refine WR.block ?_
                          refine WR.region rfl ?_
                          refine S.moveT rfl ?_
                          refine S.moveT rfl ?_
                          refine S.indexOw (i := 0) hS1002 rfl Try.underlying32 ti2 rfl rfl (by omega) rfl ?_
                          refine S.loadOw (i := 0) hS1002 rfl (fun _ _ => rfl) Try.underlying2 rfl rfl (List.getElem?_eq_getElem (by omega)) rfl rfl ?_
                          first
                            | refine S.addN rfl rfl rfl (by omega) ?_
                            | refine S.add rfl rfl rfl ?_
                          refine S.indexOw (i := 0) hS1002 rfl Try.underlying32 ti2 rfl rfl (by omega) rfl ?_
                          refine S.storeOw (i := 0) hS1002 rfl (fun _ _ => rfl) ti2 rfl (by omega) rfl rfl rfl rfl rfl ?_
                          intro w2008 hS2008; clear hS1002
                          refine WS.done ?_
                          refine WR.region rfl ?_
                          refine S.moveT rfl ?_
                          first
                            | refine S.addN rfl rfl rfl (by omega) ?_
                            | refine S.add rfl rfl rfl ?_
                          refine S.assignT rfl ?_
                          refine WS.done ?_
                          exact ⟨_, (by rw [List.length_set]; omega), ⟨q + 1, _, rfl, (by exact ⟨by rw [List.length_set]; omega, by rw [List.length_set]; exact hyl⟩), rfl, ⟨rfl, rfl, rfl, rfl, rfl, rfl, rfl, rfl, rfl, trivial⟩, hS2008⟩⟩
                        ·
                          skip
                          refine WR.exit ?_
                          refine WR.seq ?_
                          obtain ⟨RA, hRA, hroA, hSA⟩ := (hS1002.at_ (i := 1) rfl).freeze (fun _ _ => rfl)
                          obtain ⟨RB, hRB, hroB, hSB⟩ := (hSA.at_ (i := 1) rfl).freeze (fun _ _ => rfl)
                          replace hroA := hroA.mono hRB
                          replace hro92 := hro92.mono (hRA.trans hRB)
                          refine WR.region rfl ?_
                          refine S.moveT rfl ?_
                          refine S.moveT rfl ?_
                          refine S.neq rfl rfl rfl ?_
                          refine S.isFD (d := 109) rfl (by simp) ?_
                          refine S.moveT rfl ?_
                          refine S.moveT rfl ?_
                          refine S.moveT rfl ?_
                          refine S.call ent14 rfl (u_same hSB (by exact hroA) (by exact hroB) (by have := (hI1.offer (first := u65.first) (xs := u65.items) (by omega) hEu.2.2.2.1).2.2.1; omega)) rfl ?_
                          rintro _ w113 ⟨rfl, hS113⟩
                          clear hSB
                          refine S.isTD (d := 113) rfl (by rfl) ?_
                          refine S.not rfl rfl ?_
                          refine S.pickF rfl rfl ?_
                          refine WS.done ?_
                          refine WR.condF rfl ?_
                          refine WR.skip ?_
                          exact ⟨_, _, _, _, (by first | exact ⟨(hI1.offer (by omega) hEu.2.2.2.1).1, (by repeat (first | assumption | exact Kn.le.refl _ | refine Kn.le.trans ?_ (by assumption))), hro92⟩ | exact ⟨hI1.nil, (by repeat (first | assumption | exact Kn.le.refl _ | refine Kn.le.trans ?_ (by assumption))), Ro.nil⟩ | exact ⟨hI1, (by repeat (first | assumption | exact Kn.le.refl _ | refine Kn.le.trans ?_ (by assumption))), hroj⟩), ⟨rfl, rfl, rfl, rfl, trivial⟩, hS113.drop⟩
                      ·
                        skip
                        refine S.loadRoF hS6002 hc89 rfl Try.underlying32 rfl rfl rfl ?_
                        refine WS.done ⟨fun _ => hS6002, ?_⟩
                        replace hC := hS6002
                        refine WA.one (fuel := 6) 5 rfl (by kernel_rfl) rfl ?_
                        refine S.loadRoF hS6002 hc84 rfl Try.underlying2 rfl rfl rfl ?_
                        refine WS.done ⟨fun _ => hS6002, ?_⟩
                        replace hC := hS6002
                        refine WA.one (fuel := 5) 11 rfl (by kernel_rfl) rfl ?_
                        refine S.call ent13 rfl (r_offer (((((hS6002.at_ (i := 3) rfl).at_ (i := 3) rfl).at_ (i := 3) rfl).at_ (i := 3) rfl).at_ (i := 4) rfl) (by exact hroj) (by exact hI1) (by exact hEu.2.2.1) (by exact hEu.1.mono hRb) (by exact hEu.2.2.2.1) (by omega)) rfl ?_
                        rintro _ w92 ⟨v92, R92, vr92, rfl, hR92, hro92, hS92⟩
                        clear hS6002
                        replace hrc := hrc.mono hR92
                        replace hroj := hroj.mono hR92
                        refine WS.done ⟨fun h => absurd h (by decide), ?_⟩
                        refine WA.one (fuel := 4) 12 rfl (by kernel_rfl) rfl ?_
                        refine S.moveT rfl ?_
                        refine WS.done ⟨fun h => absurd h (by decide), ?_⟩
                        refine WA.takeP (fuel := 3) 13 rfl (by kernel_rfl) (by kernel_rfl) (by kernel_rfl) rfl rfl ?_
                        refine Q.extract rfl rfl rfl ?_
                        refine WQ.done ?_
                        refine WA.takeP (fuel := 2) 14 rfl (by kernel_rfl) (by kernel_rfl) (by kernel_rfl) rfl rfl ?_
                        refine Q.extract rfl rfl rfl ?_
                        refine WQ.done ?_
                        refine WA.one (fuel := 1) 15 rfl (by kernel_rfl) rfl ?_
                        refine S.assignT rfl ?_
                        refine WS.done ⟨fun h => absurd h (by decide), ?_⟩
                        refine WA.one (fuel := 0) 16 rfl (by kernel_rfl) rfl ?_
                        refine S.assignT rfl ?_
                        refine WS.done ⟨fun h => absurd h (by decide), ?_⟩
                        refine WA.done (by kernel_rfl) ?_
                        clear hC
                        refine WR.seq ?_
                        refine WR.seq ?_
                        refine WR.region rfl ?_
                        refine S.assignC rfl ?_
                        refine WS.done ?_
                        refine WR.block ?_
                        refine WR.loopE (fun rq mm rr wr => ∃ (q : Nat) (ys : List Int), mm = ys.length - q ∧ (q ≤ ys.length ∧ ys.length = u65.items.length) ∧ rr 17 = .int .i64 (q : Int) ∧ Agr [2, 7, 9, 11, 12, 13, 14, 15, 16] rr rq ∧ St wr R92 (Ow 2 (encI .i64) 1 v68 ys :: Ow 2 (encI .i64) 1 v77 (offer n1 mo m1 u65.first u65.items).1 :: Ow 2 (encI .i64) 1 v92 (offer n1 mo m1 u65.first u65.items).1 :: blk bh25 (.cells (#[.int .i64 (offer n1 mo m1 u65.first u65.items).2.2.1, .int .i64 mo, .map (some bm25)]) 51 (0, 0)) :: Mp Try.prog 2 bm25 (mE iE (offer n1 mo m1 u65.first u65.items).2.2.2) :: blk bh31 (.cells (#[.int .i64 (offer n1 mo m1 u65.first u65.items).2.2.1, .int .i64 mo, vr92]) 44 (0, 0)) :: L)) ⟨0, _, rfl, (by exact ⟨by omega, rfl⟩), rfl, ⟨rfl, rfl, rfl, rfl, rfl, rfl, rfl, rfl, rfl, trivial⟩, ((((((hS92.at_ (i := 1) rfl).at_ (i := 5) rfl).at_ (i := 5) rfl).at_ (i := 3) rfl).at_ (i := 5) rfl).at_ (i := 5) rfl)⟩ ?_
                        rintro mm rr w1002 ⟨q, ys, hm1002, ⟨hq, hyl⟩, hr1002_17, hA1002, hS1002⟩
                        obtain ⟨rr, rfl⟩ := agrBack hA1002
                        clear hA1002
                        obtain ⟨rr, rfl⟩ := back1 (r := rr) hr1002_17
                        clear hr1002_17
                        obtain ⟨ay, cy, rfl⟩ := hS1002.rowLen
                        refine WR.seq ?_
                        refine WR.seq ?_
                        refine WR.region rfl ?_
                        refine S.moveT rfl ?_
                        refine S.moveT rfl ?_
                        refine S.lenSl Try.underlying32 rfl rfl ?_
                        refine S.lss rfl rfl rfl ?_
                        refine WS.done ?_
                        refine WR.condD rfl (fun c98 => ?_) (fun c98 => ?_)
                        ·
                          skip
                          refine WR.skip ?_
                          refine WR.seq ?_
                          refine WR.block ?_
                          refine WR.region rfl ?_
                          refine S.moveT rfl ?_
                          refine S.moveT rfl ?_
                          refine S.indexOw (i := 0) hS1002 rfl Try.underlying32 ti2 rfl rfl (by omega) rfl ?_
                          refine S.loadOw (i := 0) hS1002 rfl (fun _ _ => rfl) Try.underlying2 rfl rfl (List.getElem?_eq_getElem (by omega)) rfl rfl ?_
                          first
                            | refine S.addN rfl rfl rfl (by omega) ?_
                            | refine S.add rfl rfl rfl ?_
                          refine S.indexOw (i := 0) hS1002 rfl Try.underlying32 ti2 rfl rfl (by omega) rfl ?_
                          refine S.storeOw (i := 0) hS1002 rfl (fun _ _ => rfl) ti2 rfl (by omega) rfl rfl rfl rfl rfl ?_
                          intro w2009 hS2009; clear hS1002
                          refine WS.done ?_
                          refine WR.region rfl ?_
                          refine S.moveT rfl ?_
                          first
                            | refine S.addN rfl rfl rfl (by omega) ?_
                            | refine S.add rfl rfl rfl ?_
                          refine S.assignT rfl ?_
                          refine WS.done ?_
                          exact ⟨_, (by rw [List.length_set]; omega), ⟨q + 1, _, rfl, (by exact ⟨by rw [List.length_set]; omega, by rw [List.length_set]; exact hyl⟩), rfl, ⟨rfl, rfl, rfl, rfl, rfl, rfl, rfl, rfl, rfl, trivial⟩, hS2009⟩⟩
                        ·
                          skip
                          refine WR.exit ?_
                          refine WR.seq ?_
                          obtain ⟨RA, hRA, hroA, hSA⟩ := (hS1002.at_ (i := 1) rfl).freeze (fun _ _ => rfl)
                          obtain ⟨RB, hRB, hroB, hSB⟩ := (hSA.at_ (i := 1) rfl).freeze (fun _ _ => rfl)
                          replace hroA := hroA.mono hRB
                          replace hro92 := hro92.mono (hRA.trans hRB)
                          refine WR.region rfl ?_
                          refine S.moveT rfl ?_
                          refine S.moveT rfl ?_
                          refine S.neq rfl rfl rfl ?_
                          refine S.isFD (d := 109) rfl (by simp) ?_
                          refine S.moveT rfl ?_
                          refine S.moveT rfl ?_
                          refine S.moveT rfl ?_
                          refine S.call ent14 rfl (u_same hSB (by exact hroA) (by exact hroB) (by have := (hI1.offer (first := u65.first) (xs := u65.items) (by omega) hEu.2.2.2.1).2.2.1; omega)) rfl ?_
                          rintro _ w113 ⟨rfl, hS113⟩
                          clear hSB
                          refine S.isTD (d := 113) rfl (by rfl) ?_
                          refine S.not rfl rfl ?_
                          refine S.pickF rfl rfl ?_
                          refine WS.done ?_
                          refine WR.condF rfl ?_
                          refine WR.skip ?_
                          exact ⟨_, _, _, _, (by first | exact ⟨(hI1.offer (by omega) hEu.2.2.2.1).1, (by repeat (first | assumption | exact Kn.le.refl _ | refine Kn.le.trans ?_ (by assumption))), hro92⟩ | exact ⟨hI1.nil, (by repeat (first | assumption | exact Kn.le.refl _ | refine Kn.le.trans ?_ (by assumption))), Ro.nil⟩ | exact ⟨hI1, (by repeat (first | assumption | exact Kn.le.refl _ | refine Kn.le.trans ?_ (by assumption))), hroj⟩), ⟨rfl, rfl, rfl, rfl, trivial⟩, hS113.drop⟩
                  ·
                    skip
                    refine S.fieldElt Try.underlying34 rfl ti32 rfl rfl rfl ?_
                    refine WS.done ⟨fun _ => hS6002, ?_⟩
                    replace hC := hS6002
                    refine WA.two (fuel := 8) 4 10 rfl rfl (by kernel_rfl) rfl ?_ ?_
                    ·
                      skip
                      refine S.fieldElt Try.underlying34 rfl ti2 rfl rfl rfl ?_
                      refine WS.done ⟨fun _ => hS6002, ?_⟩
                      replace hC := hS6002
                      refine WA.two (fuel := 7) 5 10 rfl rfl (by kernel_rfl) rfl ?_ ?_
                      ·
                        skip
                        refine S.loadRoF hS6002 hc84 rfl Try.underlying2 rfl rfl rfl ?_
                        refine WS.done ⟨fun _ => hS6002, ?_⟩
                        replace hC := hS6002
                        refine WA.one (fuel := 6) 10 rfl (by kernel_rfl) rfl ?_
                        refine S.loadRoF hS6002 hc89 rfl Try.underlying32 rfl rfl rfl ?_
                        refine WS.done ⟨fun _ => hS6002, ?_⟩
                        replace hC := hS6002
                        refine WA.one (fuel := 5) 11 rfl (by kernel_rfl) rfl ?_
                        refine S.call ent13 rfl (r_offer (((((hS6002.at_ (i := 3) rfl).at_ (i := 3) rfl).at_ (i := 3) rfl).at_ (i := 3) rfl).at_ (i := 4) rfl) (by exact hroj) (by exact hI1) (by exact hEu.2.2.1) (by exact hEu.1.mono hRb) (by exact hEu.2.2.2.1) (by omega)) rfl ?_
                        rintro _ w92 ⟨v92, R92, vr92, rfl, hR92, hro92, hS92⟩
                        clear hS6002
                        replace hrc := hrc.mono hR92
                        replace hroj := hroj.mono hR92
                        refine WS.done ⟨fun h => absurd h (by decide), ?_⟩
                        refine WA.one (fuel := 4) 12 rfl (by kernel_rfl) rfl ?_
                        refine S.moveT rfl ?_
                        refine WS.done ⟨fun h => absurd h (by decide), ?_⟩
                        refine WA.takeP (fuel := 3) 13 rfl (by kernel_rfl) (by kernel_rfl) (by kernel_rfl) rfl rfl ?_
                        refine Q.extract rfl rfl rfl ?_
                        refine WQ.done ?_
                        refine WA.takeP (fuel := 2) 14 rfl (by kernel_rfl) (by kernel_rfl) (by kernel_rfl) rfl rfl ?_
                        refine Q.extract rfl rfl rfl ?_
                        refine WQ.done ?_
                        refine WA.one (fuel := 1) 15 rfl (by kernel_rfl) rfl ?_
                        refine S.assignT rfl ?_
                        refine WS.done ⟨fun h => absurd h (by decide), ?_⟩
                        refine WA.one (fuel := 0) 16 rfl (by kernel_rfl) rfl ?_
                        refine S.assignT rfl ?_
                        refine WS.done ⟨fun h => absurd h (by decide), ?_⟩
                        refine WA.done (by kernel_rfl) ?_
                        clear hC
                        refine WR.seq ?_
                        refine WR.seq ?_
                        refine WR.region rfl ?_
                        refine S.assignC rfl ?_
                        refine WS.done ?_
                        refine WR.block ?_
                        refine WR.loopE (fun rq mm rr wr => ∃ (q : Nat) (ys : List Int), mm = ys.length - q ∧ (q ≤ ys.length ∧ ys.length = u65.items.length) ∧ rr 17 = .int .i64 (q : Int) ∧ Agr [2, 7, 9, 11, 12, 13, 14, 15, 16] rr rq ∧ St wr R92 (Ow 2 (encI .i64) 1 v68 ys :: Ow 2 (encI .i64) 1 v77 (offer n1 mo m1 u65.first u65.items).1 :: Ow 2 (encI .i64) 1 v92 (offer n1 mo m1 u65.first u65.items).1 :: blk bh25 (.cells (#[.int .i64 (offer n1 mo m1 u65.first u65.items).2.2.1, .int .i64 mo, .map (some bm25)]) 51 (0, 0)) :: Mp Try.prog 2 bm25 (mE iE (offer n1 mo m1 u65.first u65.items).2.2.2) :: blk bh31 (.cells (#[.int .i64 (offer n1 mo m1 u65.first u65.items).2.2.1, .int .i64 mo, vr92]) 44 (0, 0)) :: L)) ⟨0, _, rfl, (by exact ⟨by omega, rfl⟩), rfl, ⟨rfl, rfl, rfl, rfl, rfl, rfl, rfl, rfl, rfl, trivial⟩, ((((((hS92.at_ (i := 1) rfl).at_ (i := 5) rfl).at_ (i := 5) rfl).at_ (i := 3) rfl).at_ (i := 5) rfl).at_ (i := 5) rfl)⟩ ?_
                        rintro mm rr w1002 ⟨q, ys, hm1002, ⟨hq, hyl⟩, hr1002_17, hA1002, hS1002⟩
                        obtain ⟨rr, rfl⟩ := agrBack hA1002
                        clear hA1002
                        obtain ⟨rr, rfl⟩ := back1 (r := rr) hr1002_17
                        clear hr1002_17
                        obtain ⟨ay, cy, rfl⟩ := hS1002.rowLen
                        refine WR.seq ?_
                        refine WR.seq ?_
                        refine WR.region rfl ?_
                        refine S.moveT rfl ?_
                        refine S.moveT rfl ?_
                        refine S.lenSl Try.underlying32 rfl rfl ?_
                        refine S.lss rfl rfl rfl ?_
                        refine WS.done ?_
                        refine WR.condD rfl (fun c98 => ?_) (fun c98 => ?_)
                        ·
                          skip
                          refine WR.skip ?_
                          refine WR.seq ?_
                          refine WR.block ?_
                          refine WR.region rfl ?_
                          refine S.moveT rfl ?_
                          refine S.moveT rfl ?_
                          refine S.indexOw (i := 0) hS1002 rfl Try.underlying32 ti2 rfl rfl (by omega) rfl ?_
                          refine S.loadOw (i := 0) hS1002 rfl (fun _ _ => rfl) Try.underlying2 rfl rfl (List.getElem?_eq_getElem (by omega)) rfl rfl ?_
                          first
                            | refine S.addN rfl rfl rfl (by omega) ?_
                            | refine S.add rfl rfl rfl ?_
                          refine S.indexOw (i := 0) hS1002 rfl Try.underlying32 ti2 rfl rfl (by omega) rfl ?_
                          refine S.storeOw (i := 0) hS1002 rfl (fun _ _ => rfl) ti2 rfl (by omega) rfl rfl rfl rfl rfl ?_
                          intro w2010 hS2010; clear hS1002
                          refine WS.done ?_
                          refine WR.region rfl ?_
                          refine S.moveT rfl ?_
                          first
                            | refine S.addN rfl rfl rfl (by omega) ?_
                            | refine S.add rfl rfl rfl ?_
                          refine S.assignT rfl ?_
                          refine WS.done ?_
                          exact ⟨_, (by rw [List.length_set]; omega), ⟨q + 1, _, rfl, (by exact ⟨by rw [List.length_set]; omega, by rw [List.length_set]; exact hyl⟩), rfl, ⟨rfl, rfl, rfl, rfl, rfl, rfl, rfl, rfl, rfl, trivial⟩, hS2010⟩⟩
                        ·
                          skip
                          refine WR.exit ?_
                          refine WR.seq ?_
                          obtain ⟨RA, hRA, hroA, hSA⟩ := (hS1002.at_ (i := 1) rfl).freeze (fun _ _ => rfl)
                          obtain ⟨RB, hRB, hroB, hSB⟩ := (hSA.at_ (i := 1) rfl).freeze (fun _ _ => rfl)
                          replace hroA := hroA.mono hRB
                          replace hro92 := hro92.mono (hRA.trans hRB)
                          refine WR.region rfl ?_
                          refine S.moveT rfl ?_
                          refine S.moveT rfl ?_
                          refine S.neq rfl rfl rfl ?_
                          refine S.isFD (d := 109) rfl (by simp) ?_
                          refine S.moveT rfl ?_
                          refine S.moveT rfl ?_
                          refine S.moveT rfl ?_
                          refine S.call ent14 rfl (u_same hSB (by exact hroA) (by exact hroB) (by have := (hI1.offer (first := u65.first) (xs := u65.items) (by omega) hEu.2.2.2.1).2.2.1; omega)) rfl ?_
                          rintro _ w113 ⟨rfl, hS113⟩
                          clear hSB
                          refine S.isTD (d := 113) rfl (by rfl) ?_
                          refine S.not rfl rfl ?_
                          refine S.pickF rfl rfl ?_
                          refine WS.done ?_
                          refine WR.condF rfl ?_
                          refine WR.skip ?_
                          exact ⟨_, _, _, _, (by first | exact ⟨(hI1.offer (by omega) hEu.2.2.2.1).1, (by repeat (first | assumption | exact Kn.le.refl _ | refine Kn.le.trans ?_ (by assumption))), hro92⟩ | exact ⟨hI1.nil, (by repeat (first | assumption | exact Kn.le.refl _ | refine Kn.le.trans ?_ (by assumption))), Ro.nil⟩ | exact ⟨hI1, (by repeat (first | assumption | exact Kn.le.refl _ | refine Kn.le.trans ?_ (by assumption))), hroj⟩), ⟨rfl, rfl, rfl, rfl, trivial⟩, hS113.drop⟩
                      ·
                        skip
                        refine S.loadRoF hS6002 hc89 rfl Try.underlying32 rfl rfl rfl ?_
                        refine WS.done ⟨fun _ => hS6002, ?_⟩
                        replace hC := hS6002
                        refine WA.one (fuel := 6) 5 rfl (by kernel_rfl) rfl ?_
                        refine S.loadRoF hS6002 hc84 rfl Try.underlying2 rfl rfl rfl ?_
                        refine WS.done ⟨fun _ => hS6002, ?_⟩
                        replace hC := hS6002
                        refine WA.one (fuel := 5) 11 rfl (by kernel_rfl) rfl ?_
                        refine S.call ent13 rfl (r_offer (((((hS6002.at_ (i := 3) rfl).at_ (i := 3) rfl).at_ (i := 3) rfl).at_ (i := 3) rfl).at_ (i := 4) rfl) (by exact hroj) (by exact hI1) (by exact hEu.2.2.1) (by exact hEu.1.mono hRb) (by exact hEu.2.2.2.1) (by omega)) rfl ?_
                        rintro _ w92 ⟨v92, R92, vr92, rfl, hR92, hro92, hS92⟩
                        clear hS6002
                        replace hrc := hrc.mono hR92
                        replace hroj := hroj.mono hR92
                        refine WS.done ⟨fun h => absurd h (by decide), ?_⟩
                        refine WA.one (fuel := 4) 12 rfl (by kernel_rfl) rfl ?_
                        refine S.moveT rfl ?_
                        refine WS.done ⟨fun h => absurd h (by decide), ?_⟩
                        refine WA.takeP (fuel := 3) 13 rfl (by kernel_rfl) (by kernel_rfl) (by kernel_rfl) rfl rfl ?_
                        refine Q.extract rfl rfl rfl ?_
                        refine WQ.done ?_
                        refine WA.takeP (fuel := 2) 14 rfl (by kernel_rfl) (by kernel_rfl) (by kernel_rfl) rfl rfl ?_
                        refine Q.extract rfl rfl rfl ?_
                        refine WQ.done ?_
                        refine WA.one (fuel := 1) 15 rfl (by kernel_rfl) rfl ?_
                        refine S.assignT rfl ?_
                        refine WS.done ⟨fun h => absurd h (by decide), ?_⟩
                        refine WA.one (fuel := 0) 16 rfl (by kernel_rfl) rfl ?_
                        refine S.assignT rfl ?_
                        refine WS.done ⟨fun h => absurd h (by decide), ?_⟩
                        refine WA.done (by kernel_rfl) ?_
                        clear hC
                        refine WR.seq ?_
                        refine WR.seq ?_
                        refine WR.region rfl ?_
                        refine S.assignC rfl ?_
                        refine WS.done ?_
                        refine WR.block ?_
                        refine WR.loopE (fun rq mm rr wr => ∃ (q : Nat) (ys : List Int), mm = ys.length - q ∧ (q ≤ ys.length ∧ ys.length = u65.items.length) ∧ rr 17 = .int .i64 (q : Int) ∧ Agr [2, 7, 9, 11, 12, 13, 14, 15, 16] rr rq ∧ St wr R92 (Ow 2 (encI .i64) 1 v68 ys :: Ow 2 (encI .i64) 1 v77 (offer n1 mo m1 u65.first u65.items).1 :: Ow 2 (encI .i64) 1 v92 (offer n1 mo m1 u65.first u65.items).1 :: blk bh25 (.cells (#[.int .i64 (offer n1 mo m1 u65.first u65.items).2.2.1, .int .i64 mo, .map (some bm25)]) 51 (0, 0)) :: Mp Try.prog 2 bm25 (mE iE (offer n1 mo m1 u65.first u65.items).2.2.2) :: blk bh31 (.cells (#[.int .i64 (offer n1 mo m1 u65.first u65.items).2.2.1, .int .i64 mo, vr92]) 44 (0, 0)) :: L)) ⟨0, _, rfl, (by exact ⟨by omega, rfl⟩), rfl, ⟨rfl, rfl, rfl, rfl, rfl, rfl, rfl, rfl, rfl, trivial⟩, ((((((hS92.at_ (i := 1) rfl).at_ (i := 5) rfl).at_ (i := 5) rfl).at_ (i := 3) rfl).at_ (i := 5) rfl).at_ (i := 5) rfl)⟩ ?_
                        rintro mm rr w1002 ⟨q, ys, hm1002, ⟨hq, hyl⟩, hr1002_17, hA1002, hS1002⟩
                        obtain ⟨rr, rfl⟩ := agrBack hA1002
                        clear hA1002
                        obtain ⟨rr, rfl⟩ := back1 (r := rr) hr1002_17
                        clear hr1002_17
                        obtain ⟨ay, cy, rfl⟩ := hS1002.rowLen
                        refine WR.seq ?_
                        refine WR.seq ?_
                        refine WR.region rfl ?_
                        refine S.moveT rfl ?_
                        refine S.moveT rfl ?_
                        refine S.lenSl Try.underlying32 rfl rfl ?_
                        refine S.lss rfl rfl rfl ?_
                        refine WS.done ?_
                        refine WR.condD rfl (fun c98 => ?_) (fun c98 => ?_)
                        ·
                          skip
                          refine WR.skip ?_
                          refine WR.seq ?_
                          refine WR.block ?_
                          refine WR.region rfl ?_
                          refine S.moveT rfl ?_
                          refine S.moveT rfl ?_
                          refine S.indexOw (i := 0) hS1002 rfl Try.underlying32 ti2 rfl rfl (by omega) rfl ?_
                          refine S.loadOw (i := 0) hS1002 rfl (fun _ _ => rfl) Try.underlying2 rfl rfl (List.getElem?_eq_getElem (by omega)) rfl rfl ?_
                          first
                            | refine S.addN rfl rfl rfl (by omega) ?_
                            | refine S.add rfl rfl rfl ?_
                          refine S.indexOw (i := 0) hS1002 rfl Try.underlying32 ti2 rfl rfl (by omega) rfl ?_
                          refine S.storeOw (i := 0) hS1002 rfl (fun _ _ => rfl) ti2 rfl (by omega) rfl rfl rfl rfl rfl ?_
                          intro w2011 hS2011; clear hS1002
                          refine WS.done ?_
                          refine WR.region rfl ?_
                          refine S.moveT rfl ?_
                          first
                            | refine S.addN rfl rfl rfl (by omega) ?_
                            | refine S.add rfl rfl rfl ?_
                          refine S.assignT rfl ?_
                          refine WS.done ?_
                          exact ⟨_, (by rw [List.length_set]; omega), ⟨q + 1, _, rfl, (by exact ⟨by rw [List.length_set]; omega, by rw [List.length_set]; exact hyl⟩), rfl, ⟨rfl, rfl, rfl, rfl, rfl, rfl, rfl, rfl, rfl, trivial⟩, hS2011⟩⟩
                        ·
                          skip
                          refine WR.exit ?_
                          refine WR.seq ?_
                          obtain ⟨RA, hRA, hroA, hSA⟩ := (hS1002.at_ (i := 1) rfl).freeze (fun _ _ => rfl)
                          obtain ⟨RB, hRB, hroB, hSB⟩ := (hSA.at_ (i := 1) rfl).freeze (fun _ _ => rfl)
                          replace hroA := hroA.mono hRB
                          replace hro92 := hro92.mono (hRA.trans hRB)
                          refine WR.region rfl ?_
                          refine S.moveT rfl ?_
                          refine S.moveT rfl ?_
                          refine S.neq rfl rfl rfl ?_
                          refine S.isFD (d := 109) rfl (by simp) ?_
                          refine S.moveT rfl ?_
                          refine S.moveT rfl ?_
                          refine S.moveT rfl ?_
                          refine S.call ent14 rfl (u_same hSB (by exact hroA) (by exact hroB) (by have := (hI1.offer (first := u65.first) (xs := u65.items) (by omega) hEu.2.2.2.1).2.2.1; omega)) rfl ?_
                          rintro _ w113 ⟨rfl, hS113⟩
                          clear hSB
                          refine S.isTD (d := 113) rfl (by rfl) ?_
                          refine S.not rfl rfl ?_
                          refine S.pickF rfl rfl ?_
                          refine WS.done ?_
                          refine WR.condF rfl ?_
                          refine WR.skip ?_
                          exact ⟨_, _, _, _, (by first | exact ⟨(hI1.offer (by omega) hEu.2.2.2.1).1, (by repeat (first | assumption | exact Kn.le.refl _ | refine Kn.le.trans ?_ (by assumption))), hro92⟩ | exact ⟨hI1.nil, (by repeat (first | assumption | exact Kn.le.refl _ | refine Kn.le.trans ?_ (by assumption))), Ro.nil⟩ | exact ⟨hI1, (by repeat (first | assumption | exact Kn.le.refl _ | refine Kn.le.trans ?_ (by assumption))), hroj⟩), ⟨rfl, rfl, rfl, rfl, trivial⟩, hS113.drop⟩
                    ·
                      skip
                      refine S.loadRoF hS6002 hc89 rfl Try.underlying32 rfl rfl rfl ?_
                      refine WS.done ⟨fun _ => hS6002, ?_⟩
                      replace hC := hS6002
                      refine WA.one (fuel := 7) 4 rfl (by kernel_rfl) rfl ?_
                      refine S.fieldElt Try.underlying34 rfl ti2 rfl rfl rfl ?_
                      refine WS.done ⟨fun _ => hS6002, ?_⟩
                      replace hC := hS6002
                      refine WA.one (fuel := 6) 5 rfl (by kernel_rfl) rfl ?_
                      refine S.loadRoF hS6002 hc84 rfl Try.underlying2 rfl rfl rfl ?_
                      refine WS.done ⟨fun _ => hS6002, ?_⟩
                      replace hC := hS6002
                      refine WA.one (fuel := 5) 11 rfl (by kernel_rfl) rfl ?_
                      refine S.call ent13 rfl (r_offer (((((hS6002.at_ (i := 3) rfl).at_ (i := 3) rfl).at_ (i := 3) rfl).at_ (i := 3) rfl).at_ (i := 4) rfl) (by exact hroj) (by exact hI1) (by exact hEu.2.2.1) (by exact hEu.1.mono hRb) (by exact hEu.2.2.2.1) (by omega)) rfl ?_
                      rintro _ w92 ⟨v92, R92, vr92, rfl, hR92, hro92, hS92⟩
                      clear hS6002
                      replace hrc := hrc.mono hR92
                      replace hroj := hroj.mono hR92
                      refine WS.done ⟨fun h => absurd h (by decide), ?_⟩
                      refine WA.one (fuel := 4) 12 rfl (by kernel_rfl) rfl ?_
                      refine S.moveT rfl ?_
                      refine WS.done ⟨fun h => absurd h (by decide), ?_⟩
                      refine WA.takeP (fuel := 3) 13 rfl (by kernel_rfl) (by kernel_rfl) (by kernel_rfl) rfl rfl ?_
                      refine Q.extract rfl rfl rfl ?_
                      refine WQ.done ?_
                      refine WA.takeP (fuel := 2) 14 rfl (by kernel_rfl) (by kernel_rfl) (by kernel_rfl) rfl rfl ?_
                      refine Q.extract rfl rfl rfl ?_
                      refine WQ.done ?_
                      refine WA.one (fuel := 1) 15 rfl (by kernel_rfl) rfl ?_
                      refine S.assignT rfl ?_
                      refine WS.done ⟨fun h => absurd h (by decide), ?_⟩
                      refine WA.one (fuel := 0) 16 rfl (by kernel_rfl) rfl ?_
                      refine S.assignT rfl ?_
                      refine WS.done ⟨fun h => absurd h (by decide), ?_⟩
                      refine WA.done (by kernel_rfl) ?_
                      clear hC
                      refine WR.seq ?_
                      refine WR.seq ?_
                      refine WR.region rfl ?_
                      refine S.assignC rfl ?_
                      refine WS.done ?_
                      refine WR.block ?_
                      refine WR.loopE (fun rq mm rr wr => ∃ (q : Nat) (ys : List Int), mm = ys.length - q ∧ (q ≤ ys.length ∧ ys.length = u65.items.length) ∧ rr 17 = .int .i64 (q : Int) ∧ Agr [2, 7, 9, 11, 12, 13, 14, 15, 16] rr rq ∧ St wr R92 (Ow 2 (encI .i64) 1 v68 ys :: Ow 2 (encI .i64) 1 v77 (offer n1 mo m1 u65.first u65.items).1 :: Ow 2 (encI .i64) 1 v92 (offer n1 mo m1 u65.first u65.items).1 :: blk bh25 (.cells (#[.int .i64 (offer n1 mo m1 u65.first u65.items).2.2.1, .int .i64 mo, .map (some bm25)]) 51 (0, 0)) :: Mp Try.prog 2 bm25 (mE iE (offer n1 mo m1 u65.first u65.items).2.2.2) :: blk bh31 (.cells (#[.int .i64 (offer n1 mo m1 u65.first u65.items).2.2.1, .int .i64 mo, vr92]) 44 (0, 0)) :: L)) ⟨0, _, rfl, (by exact ⟨by omega, rfl⟩), rfl, ⟨rfl, rfl, rfl, rfl, rfl, rfl, rfl, rfl, rfl, trivial⟩, ((((((hS92.at_ (i := 1) rfl).at_ (i := 5) rfl).at_ (i := 5) rfl).at_ (i := 3) rfl).at_ (i := 5) rfl).at_ (i := 5) rfl)⟩ ?_
                      rintro mm rr w1002 ⟨q, ys, hm1002, ⟨hq, hyl⟩, hr1002_17, hA1002, hS1002⟩
                      obtain ⟨rr, rfl⟩ := agrBack hA1002
                      clear hA1002
                      obtain ⟨rr, rfl⟩ := back1 (r := rr) hr1002_17
                      clear hr1002_17
                      obtain ⟨ay, cy, rfl⟩ := hS1002.rowLen
                      refine WR.seq ?_
                      refine WR.seq ?_
                      refine WR.region rfl ?_
                      refine S.moveT rfl ?_
                      refine S.moveT rfl ?_
                      refine S.lenSl Try.underlying32 rfl rfl ?_
                      refine S.lss rfl rfl rfl ?_
                      refine WS.done ?_
                      refine WR.condD rfl (fun c98 => ?_) (fun c98 => ?_)
                      ·
                        skip
                        refine WR.skip ?_
                        refine WR.seq ?_
                        refine WR.block ?_
                        refine WR.region rfl ?_
                        refine S.moveT rfl ?_
                        refine S.moveT rfl ?_
                        refine S.indexOw (i := 0) hS1002 rfl Try.underlying32 ti2 rfl rfl (by omega) rfl ?_
                        refine S.loadOw (i := 0) hS1002 rfl (fun _ _ => rfl) Try.underlying2 rfl rfl (List.getElem?_eq_getElem (by omega)) rfl rfl ?_
                        first
                          | refine S.addN rfl rfl rfl (by omega) ?_
                          | refine S.add rfl rfl rfl ?_
                        refine S.indexOw (i := 0) hS1002 rfl Try.underlying32 ti2 rfl rfl (by omega) rfl ?_
                        refine S.storeOw (i := 0) hS1002 rfl (fun _ _ => rfl) ti2 rfl (by omega) rfl rfl rfl rfl rfl ?_
                        intro w2012 hS2012; clear hS1002
                        refine WS.done ?_
                        refine WR.region rfl ?_
                        refine S.moveT rfl ?_
                        first
                          | refine S.addN rfl rfl rfl (by omega) ?_
                          | refine S.add rfl rfl rfl ?_
                        refine S.assignT rfl ?_
                        refine WS.done ?_
                        exact ⟨_, (by rw [List.length_set]; omega), ⟨q + 1, _, rfl, (by exact ⟨by rw [List.length_set]; omega, by rw [List.length_set]; exact hyl⟩), rfl, ⟨rfl, rfl, rfl, rfl, rfl, rfl, rfl, rfl, rfl, trivial⟩, hS2012⟩⟩
                      ·
                        skip
                        refine WR.exit ?_
                        refine WR.seq ?_
                        obtain ⟨RA, hRA, hroA, hSA⟩ := (hS1002.at_ (i := 1) rfl).freeze (fun _ _ => rfl)
                        obtain ⟨RB, hRB, hroB, hSB⟩ := (hSA.at_ (i := 1) rfl).freeze (fun _ _ => rfl)
                        replace hroA := hroA.mono hRB
                        replace hro92 := hro92.mono (hRA.trans hRB)
                        refine WR.region rfl ?_
                        refine S.moveT rfl ?_
                        refine S.moveT rfl ?_
                        refine S.neq rfl rfl rfl ?_
                        refine S.isFD (d := 109) rfl (by simp) ?_
                        refine S.moveT rfl ?_
                        refine S.moveT rfl ?_
                        refine S.moveT rfl ?_
                        refine S.call ent14 rfl (u_same hSB (by exact hroA) (by exact hroB) (by have := (hI1.offer (first := u65.first) (xs := u65.items) (by omega) hEu.2.2.2.1).2.2.1; omega)) rfl ?_
                        rintro _ w113 ⟨rfl, hS113⟩
                        clear hSB
                        refine S.isTD (d := 113) rfl (by rfl) ?_
                        refine S.not rfl rfl ?_
                        refine S.pickF rfl rfl ?_
                        refine WS.done ?_
                        refine WR.condF rfl ?_
                        refine WR.skip ?_
                        exact ⟨_, _, _, _, (by first | exact ⟨(hI1.offer (by omega) hEu.2.2.2.1).1, (by repeat (first | assumption | exact Kn.le.refl _ | refine Kn.le.trans ?_ (by assumption))), hro92⟩ | exact ⟨hI1.nil, (by repeat (first | assumption | exact Kn.le.refl _ | refine Kn.le.trans ?_ (by assumption))), Ro.nil⟩ | exact ⟨hI1, (by repeat (first | assumption | exact Kn.le.refl _ | refine Kn.le.trans ?_ (by assumption))), hroj⟩), ⟨rfl, rfl, rfl, rfl, trivial⟩, hS113.drop⟩
              ·
                skip
                refine S.indexRo hrc Try.underlying22 ti34 rfl rfl (by omega) rfl ?_
                intro ad89 u89 hu89 hl89 hc89
                obtain rfl : u65 = u89 := Option.some.inj (hu65.symm.trans hu89)
                refine WS.done ⟨fun _ => hS6002, ?_⟩
                replace hC := hS6002
                refine WA.two (fuel := 10) 3 9 rfl rfl (by kernel_rfl) rfl ?_ ?_
                ·
                  skip
                  refine S.indexRo hrc Try.underlying22 ti34 rfl rfl (by omega) rfl ?_
                  intro ad84 u84 hu84 hl84 hc84
                  obtain rfl : u65 = u84 := Option.some.inj (hu65.symm.trans hu84)
                  refine WS.done ⟨fun _ => hS6002, ?_⟩
                  replace hC := hS6002
                  refine WA.two (fuel := 9) 4 9 rfl rfl (by kernel_rfl) rfl ?_ ?_
                  ·
                    skip
                    refine S.fieldElt Try.underlying34 rfl ti2 rfl rfl rfl ?_
                    refine WS.done ⟨fun _ => hS6002, ?_⟩
                    replace hC := hS6002
                    refine WA.two (fuel := 8) 5 9 rfl rfl (by kernel_rfl) rfl ?_ ?_
                    ·
                      skip
                      refine S.loadRoF hS6002 hc84 rfl Try.underlying2 rfl rfl rfl ?_
                      refine WS.done ⟨fun _ => hS6002, ?_⟩
                      replace hC := hS6002
                      refine WA.one (fuel := 7) 9 rfl (by kernel_rfl) rfl ?_
                      refine S.fieldElt Try.underlying34 rfl ti32 rfl rfl rfl ?_
                      refine WS.done ⟨fun _ => hS6002, ?_⟩
                      replace hC := hS6002
                      refine WA.one (fuel := 6) 10 rfl (by kernel_rfl) rfl ?_
                      refine S.loadRoF hS6002 hc89 rfl Try.underlying32 rfl rfl rfl ?_
                      refine WS.done ⟨fun _ => hS6002, ?_⟩
                      replace hC := hS6002
                      refine WA.one (fuel := 5) 11 rfl (by kernel_rfl) rfl ?_
                      refine S.call ent13 rfl (r_offer (((((hS6002.at_ (i := 3) rfl).at_ (i := 3) rfl).at_ (i := 3) rfl).at_ (i := 3) rfl).at_ (i := 4) rfl) (by exact hroj) (by exact hI1) (by exact hEu.2.2.1) (by exact hEu.1.mono hRb) (by exact hEu.2.2.2.1) (by omega)) rfl ?_
                      rintro _ w92 ⟨v92, R92, vr92, rfl, hR92, hro92, hS92⟩
                      clear hS6002
                      replace hrc := hrc.mono hR92
                      replace hroj := hroj.mono hR92
                      refine WS.done ⟨fun h => absurd h (by decide), ?_⟩
                      refine WA.one (fuel := 4) 12 rfl (by kernel_rfl) rfl ?_
                      refine S.moveT rfl ?_
                      refine WS.done ⟨fun h => absurd h (by decide), ?_⟩
                      refine WA.takeP (fuel := 3) 13 rfl (by kernel_rfl) (by kernel_rfl) (by kernel_rfl) rfl rfl ?_
                      refine Q.extract rfl rfl rfl ?_
                      refine WQ.done ?_
                      refine WA.takeP (fuel := 2) 14 rfl (by kernel_rfl) (by kernel_rfl) (by kernel_rfl) rfl rfl ?_
                      refine Q.extract rfl rfl rfl ?_
                      refine WQ.done ?_
                      refine WA.one (fuel := 1) 15 rfl (by kernel_rfl) rfl ?_
                      refine S.assignT rfl ?_
                      refine WS.done ⟨fun h => absurd h (by decide), ?_⟩
                      refine WA.one (fuel := 0) 16 rfl (by kernel_rfl) rfl ?_
                      refine S.assignT rfl ?_
                      refine WS.done ⟨fun h => absurd h (by decide), ?_⟩
                      refine WA.done (by kernel_rfl) ?_
                      clear hC
                      refine WR.seq ?_
                      refine WR.seq ?_
                      refine WR.region rfl ?_
                      refine S.assignC rfl ?_
                      refine WS.done ?_
                      refine WR.block ?_
                      refine WR.loopE (fun rq mm rr wr => ∃ (q : Nat) (ys : List Int), mm = ys.length - q ∧ (q ≤ ys.length ∧ ys.length = u65.items.length) ∧ rr 17 = .int .i64 (q : Int) ∧ Agr [2, 7, 9, 11, 12, 13, 14, 15, 16] rr rq ∧ St wr R92 (Ow 2 (encI .i64) 1 v68 ys :: Ow 2 (encI .i64) 1 v77 (offer n1 mo m1 u65.first u65.items).1 :: Ow 2 (encI .i64) 1 v92 (offer n1 mo m1 u65.first u65.items).1 :: blk bh25 (.cells (#[.int .i64 (offer n1 mo m1 u65.first u65.items).2.2.1, .int .i64 mo, .map (some bm25)]) 51 (0, 0)) :: Mp Try.prog 2 bm25 (mE iE (offer n1 mo m1 u65.first u65.items).2.2.2) :: blk bh31 (.cells (#[.int .i64 (offer n1 mo m1 u65.first u65.items).2.2.1, .int .i64 mo, vr92]) 44 (0, 0)) :: L)) ⟨0, _, rfl, (by exact ⟨by omega, rfl⟩), rfl, ⟨rfl, rfl, rfl, rfl, rfl, rfl, rfl, rfl, rfl, trivial⟩, ((((((hS92.at_ (i := 1) rfl).at_ (i := 5) rfl).at_ (i := 5) rfl).at_ (i := 3) rfl).at_ (i := 5) rfl).at_ (i := 5) rfl)⟩ ?_
                      rintro mm rr w1002 ⟨q, ys, hm1002, ⟨hq, hyl⟩, hr1002_17, hA1002, hS1002⟩
                      obtain ⟨rr, rfl⟩ := agrBack hA1002
                      clear hA1002
                      obtain ⟨rr, rfl⟩ := back1 (r := rr) hr1002_17
                      clear hr1002_17
                      obtain ⟨ay, cy, rfl⟩ := hS1002.rowLen
                      refine WR.seq ?_
                      refine WR.seq ?_
                      refine WR.region rfl ?_
                      refine S.moveT rfl ?_
                      refine S.moveT rfl ?_
                      refine S.lenSl Try.underlying32 rfl rfl ?_
                      refine S.lss rfl rfl rfl ?_
                      refine WS.done ?_
                      refine WR.condD rfl (fun c98 => ?_) (fun c98 => ?_)
                      ·
                        skip
                        refine WR.skip ?_
                        refine WR.seq ?_
                        refine WR.block ?_
                        refine WR.region rfl ?_
                        refine S.moveT rfl ?_
                        refine S.moveT rfl ?_
                        refine S.indexOw (i := 0) hS1002 rfl Try.underlying32 ti2 rfl rfl (by omega) rfl ?_
                        refine S.loadOw (i := 0) hS1002 rfl (fun _ _ => rfl) Try.underlying2 rfl rfl (List.getElem?_eq_getElem (by omega)) rfl rfl ?_
                        first
                          | refine S.addN rfl rfl rfl (by omega) ?_
                          | refine S.add rfl rfl rfl ?_
                        refine S.indexOw (i := 0) hS1002 rfl Try.underlying32 ti2 rfl rfl (by omega) rfl ?_
                        refine S.storeOw (i := 0) hS1002 rfl (fun _ _ => rfl) ti2 rfl (by omega) rfl rfl rfl rfl rfl ?_
                        intro w2013 hS2013; clear hS1002
                        refine WS.done ?_
                        refine WR.region rfl ?_
                        refine S.moveT rfl ?_
                        first
                          | refine S.addN rfl rfl rfl (by omega) ?_
                          | refine S.add rfl rfl rfl ?_
                        refine S.assignT rfl ?_
                        refine WS.done ?_
                        exact ⟨_, (by rw [List.length_set]; omega), ⟨q + 1, _, rfl, (by exact ⟨by rw [List.length_set]; omega, by rw [List.length_set]; exact hyl⟩), rfl, ⟨rfl, rfl, rfl, rfl, rfl, rfl, rfl, rfl, rfl, trivial⟩, hS2013⟩⟩
                      ·
                        skip
                        refine WR.exit ?_
                        refine WR.seq ?_
                        obtain ⟨RA, hRA, hroA, hSA⟩ := (hS1002.at_ (i := 1) rfl).freeze (fun _ _ => rfl)
                        obtain ⟨RB, hRB, hroB, hSB⟩ := (hSA.at_ (i := 1) rfl).freeze (fun _ _ => rfl)
                        replace hroA := hroA.mono hRB
                        replace hro92 := hro92.mono (hRA.trans hRB)
                        refine WR.region rfl ?_
                        refine S.moveT rfl ?_
                        refine S.moveT rfl ?_
                        refine S.neq rfl rfl rfl ?_
                        refine S.isFD (d := 109) rfl (by simp) ?_
                        refine S.moveT rfl ?_
                        refine S.moveT rfl ?_
                        refine S.moveT rfl ?_
                        refine S.call ent14 rfl (u_same hSB (by exact hroA) (by exact hroB) (by have := (hI1.offer (first := u65.first) (xs := u65.items) (by omega) hEu.2.2.2.1).2.2.1; omega)) rfl ?_
                        rintro _ w113 ⟨rfl, hS113⟩
                        clear hSB
                        refine S.isTD (d := 113) rfl (by rfl) ?_
                        refine S.not rfl rfl ?_
                        refine S.pickF rfl rfl ?_
                        refine WS.done ?_
                        refine WR.condF rfl ?_
                        refine WR.skip ?_
                        exact ⟨_, _, _, _, (by first | exact ⟨(hI1.offer (by omega) hEu.2.2.2.1).1, (by repeat (first | assumption | exact Kn.le.refl _ | refine Kn.le.trans ?_ (by assumption))), hro92⟩ | exact ⟨hI1.nil, (by repeat (first | assumption | exact Kn.le.refl _ | refine Kn.le.trans ?_ (by assumption))), Ro.nil⟩ | exact ⟨hI1, (by repeat (first | assumption | exact Kn.le.refl _ | refine Kn.le.trans ?_ (by assumption))), hroj⟩), ⟨rfl, rfl, rfl, rfl, trivial⟩, hS113.drop⟩
                    ·
                      skip
                      refine S.fieldElt Try.underlying34 rfl ti32 rfl rfl rfl ?_
                      refine WS.done ⟨fun _ => hS6002, ?_⟩
                      replace hC := hS6002
                      refine WA.two (fuel := 7) 5 10 rfl rfl (by kernel_rfl) rfl ?_ ?_
                      ·
                        skip
                        refine S.loadRoF hS6002 hc84 rfl Try.underlying2 rfl rfl rfl ?_
                        refine WS.done ⟨fun _ => hS6002, ?_⟩
                        replace hC := hS6002
                        refine WA.one (fuel := 6) 10 rfl (by kernel_rfl) rfl ?_
                        refine S.loadRoF hS6002 hc89 rfl Try.underlying32 rfl rfl rfl ?_
                        refine WS.done ⟨fun _ => hS6002, ?_⟩
                        replace hC := hS6002
                        refine WA.one (fuel := 5) 11 rfl (by kernel_rfl) rfl ?_
                        refine S.call ent13 rfl (r_offer (((((hS6002.at_ (i := 3) rfl).at_ (i := 3) rfl).at_ (i := 3) rfl).at_ (i := 3) rfl).at_ (i := 4) rfl) (by exact hroj) (by exact hI1) (by exact hEu.2.2.1) (by exact hEu.1.mono hRb) (by exact hEu.2.2.2.1) (by omega)) rfl ?_
                        rintro _ w92 ⟨v92, R92, vr92, rfl, hR92, hro92, hS92⟩
                        clear hS6002
                        replace hrc := hrc.mono hR92
                        replace hroj := hroj.mono hR92
                        refine WS.done ⟨fun h => absurd h (by decide), ?_⟩
                        refine WA.one (fuel := 4) 12 rfl (by kernel_rfl) rfl ?_
                        refine S.moveT rfl ?_
                        refine WS.done ⟨fun h => absurd h (by decide), ?_⟩
                        refine WA.takeP (fuel := 3) 13 rfl (by kernel_rfl) (by kernel_rfl) (by kernel_rfl) rfl rfl ?_
                        refine Q.extract rfl rfl rfl ?_
                        refine WQ.done ?_
                        refine WA.takeP (fuel := 2) 14 rfl (by kernel_rfl) (by kernel_rfl) (by kernel_rfl) rfl rfl ?_
                        refine Q.extract rfl rfl rfl ?_
                        refine WQ.done ?_
                        refine WA.one (fuel := 1) 15 rfl (by kernel_rfl) rfl ?_
                        refine S.assignT rfl ?_
                        refine WS.done ⟨fun h => absurd h (by decide), ?_⟩
                        refine WA.one (fuel := 0) 16 rfl (by kernel_rfl) rfl ?_
                        refine S.assignT rfl ?_
                        refine WS.done ⟨fun h => absurd h (by decide), ?_⟩
                        refine WA.done (by kernel_rfl) ?_
                        clear hC
                        refine WR.seq ?_
                        refine WR.seq ?_
                        refine WR.region rfl ?_
                        refine S.assignC rfl ?_
                        refine WS.done ?_
                        refine WR.block ?_
                        refine WR.loopE (fun rq mm rr wr => ∃ (q : Nat) (ys : List Int), mm = ys.length - q ∧ (q ≤ ys.length ∧ ys.length = u65.items.length) ∧ rr 17 = .int .i64 (q : Int) ∧ Agr [2, 7, 9, 11, 12, 13, 14, 15, 16] rr rq ∧ St wr R92 (Ow 2 (encI .i64) 1 v68 ys :: Ow 2 (encI .i64) 1 v77 (offer n1 mo m1 u65.first u65.items).1 :: Ow 2 (encI .i64) 1 v92 (offer n1 mo m1 u65.first u65.items).1 :: blk bh25 (.cells (#[.int .i64 (offer n1 mo m1 u65.first u65.items).2.2.1, .int .i64 mo, .map (some bm25)]) 51 (0, 0)) :: Mp Try.prog 2 bm25 (mE iE (offer n1 mo m1 u65.first u65.items).2.2.2) :: blk bh31 (.cells (#[.int .i64 (offer n1 mo m1 u65.first u65.items).2.2.1, .int .i64 mo, vr92]) 44 (0, 0)) :: L)) ⟨0, _, rfl, (by exact ⟨by omega, rfl⟩), rfl, ⟨rfl, rfl, rfl, rfl, rfl, rfl, rfl, rfl, rfl, trivial⟩, ((((((hS92.at_ (i := 1) rfl).at_ (i := 5) rfl).at_ (i := 5) rfl).at_ (i := 3) rfl).at_ (i := 5) rfl).at_ (i := 5) rfl)⟩ ?_
                        rintro mm rr w1002 ⟨q, ys, hm1002, ⟨hq, hyl⟩, hr1002_17, hA1002, hS1002⟩
                        obtain ⟨rr, rfl⟩ := agrBack hA1002
                        clear hA1002
                        obtain ⟨rr, rfl⟩ := back1 (r := rr) hr1002_17
                        clear hr1002_17
                        obtain ⟨ay, cy, rfl⟩ := hS1002.rowLen
                        refine WR.seq ?_
                        refine WR.seq ?_
                        refine WR.region rfl ?_
                        refine S.moveT rfl ?_
                        refine S.moveT rfl ?_
                        refine S.lenSl Try.underlying32 rfl rfl ?_
                        refine S.lss rfl rfl rfl ?_
                        refine WS.done ?_
                        refine WR.condD rfl (fun c98 => ?_) (fun c98 => ?_)
                        ·
                          skip
                          refine WR.skip ?_
                          refine WR.seq ?_
                          refine WR.block ?_
                          refine WR.region rfl ?_
                          refine S.moveT rfl ?_
                          refine S.moveT rfl ?_
                          refine S.indexOw (i := 0) hS1002 rfl Try.underlying32 ti2 rfl rfl (by omega) rfl ?_
                          refine S.loadOw (i := 0) hS1002 rfl (fun _ _ => rfl) Try.underlying2 rfl rfl (List.getElem?_eq_getElem (by omega)) rfl rfl ?_
                          first
                            | refine S.addN rfl rfl rfl (by omega) ?_
                            | refine S.add rfl rfl rfl ?_
                          refine S.indexOw (i := 0) hS1002 rfl Try.underlying32 ti2 rfl rfl (by omega) rfl ?_
                          refine S.storeOw (i := 0) hS1002 rfl (fun _ _ => rfl) ti2 rfl (by omega) rfl rfl rfl rfl rfl ?_
                          intro w2014 hS2014; clear hS1002
                          refine WS.done ?_
                          refine WR.region rfl ?_
                          refine S.moveT rfl ?_
                          first
                            | refine S.addN rfl rfl rfl (by omega) ?_
                            | refine S.add rfl rfl rfl ?_
                          refine S.assignT rfl ?_
                          refine WS.done ?_
                          exact ⟨_, (by rw [List.length_set]; omega), ⟨q + 1, _, rfl, (by exact ⟨by rw [List.length_set]; omega, by rw [List.length_set]; exact hyl⟩), rfl, ⟨rfl, rfl, rfl, rfl, rfl, rfl, rfl, rfl, rfl, trivial⟩, hS2014⟩⟩
                        ·
                          skip
                          refine WR.exit ?_
                          refine WR.seq ?_
                          obtain ⟨RA, hRA, hroA, hSA⟩ := (hS1002.at_ (i := 1) rfl).freeze (fun _ _ => rfl)
                          obtain ⟨RB, hRB, hroB, hSB⟩ := (hSA.at_ (i := 1) rfl).freeze (fun _ _ => rfl)
                          replace hroA := hroA.mono hRB
                          replace hro92 := hro92.mono (hRA.trans hRB)
                          refine WR.region rfl ?_
                          refine S.moveT rfl ?_
                          refine S.moveT rfl ?_
                          refine S.neq rfl rfl rfl ?_
                          refine S.isFD (d := 109) rfl (by simp) ?_
                          refine S.moveT rfl ?_
                          refine S.moveT rfl ?_
                          refine S.moveT rfl ?_
                          refine S.call ent14 rfl (u_same hSB (by exact hroA) (by exact hroB) (by have := (hI1.offer (first := u65.first) (xs := u65.items) (by omega) hEu.2.2.2.1).2.2.1; omega)) rfl ?_
                          rintro _ w113 ⟨rfl, hS113⟩
                          clear hSB
                          refine S.isTD (d := 113) rfl (by rfl) ?_
                          refine S.not rfl rfl ?_
                          refine S.pickF rfl rfl ?_
                          refine WS.done ?_
                          refine WR.condF rfl ?_
                          refine WR.skip ?_
                          exact ⟨_, _, _, _, (by first | exact ⟨(hI1.offer (by omega) hEu.2.2.2.1).1, (by repeat (first | assumption | exact Kn.le.refl _ | refine Kn.le.trans ?_ (by assumption))), hro92⟩ | exact ⟨hI1.nil, (by repeat (first | assumption | exact Kn.le.refl _ | refine Kn.le.trans ?_ (by assumption))), Ro.nil⟩ | exact ⟨hI1, (by repeat (first | assumption | exact Kn.le.refl _ | refine Kn.le.trans ?_ (by assumption))), hroj⟩), ⟨rfl, rfl, rfl, rfl, trivial⟩, hS113.drop⟩
                      ·
                        skip
                        refine S.loadRoF hS6002 hc89 rfl Try.underlying32 rfl rfl rfl ?_
                        refine WS.done ⟨fun _ => hS6002, ?_⟩
                        replace hC := hS6002
                        refine WA.one (fuel := 6) 5 rfl (by kernel_rfl) rfl ?_
                        refine S.loadRoF hS6002 hc84 rfl Try.underlying2 rfl rfl rfl ?_
                        refine WS.done ⟨fun _ => hS6002, ?_⟩
                        replace hC := hS6002
                        refine WA.one (fuel := 5) 11 rfl (by kernel_rfl) rfl ?_
                        refine S.call ent13 rfl (r_offer (((((hS6002.at_ (i := 3) rfl).at_ (i := 3) rfl).at_ (i := 3) rfl).at_ (i := 3) rfl).at_ (i := 4) rfl) (by exact hroj) (by exact hI1) (by exact hEu.2.2.1) (by exact hEu.1.mono hRb) (by exact hEu.2.2.2.1) (by omega)) rfl ?_
                        rintro _ w92 ⟨v92, R92, vr92, rfl, hR92, hro92, hS92⟩
                        clear hS6002
                        replace hrc := hrc.mono hR92
                        replace hroj := hroj.mono hR92
                        refine WS.done ⟨fun h => absurd h (by decide), ?_⟩
                        refine WA.one (fuel := 4) 12 rfl (by kernel_rfl) rfl ?_
                        refine S.moveT rfl ?_
                        refine WS.done ⟨fun h => absurd h (by decide), ?_⟩
                        refine WA.takeP (fuel := 3) 13 rfl (by kernel_rfl) (by kernel_rfl) (by kernel_rfl) rfl rfl ?_
                        refine Q.extract rfl rfl rfl ?_
                        refine WQ.done ?_
                        refine WA.takeP (fuel := 2) 14 rfl (by kernel_rfl) (by kernel_rfl) (by kernel_rfl) rfl rfl ?_
                        refine Q.extract rfl rfl rfl ?_
                        refine WQ.done ?_
                        refine WA.one (fuel := 1) 15 rfl (by kernel_rfl) rfl ?_
                        refine S.assignT rfl ?_
                        refine WS.done ⟨fun h => absurd h (by decide), ?_⟩
                        refine WA.one (fuel := 0) 16 rfl (by kernel_rfl) rfl ?_
                        refine S.assignT rfl ?_
                        refine WS.done ⟨fun h => absurd h (by decide), ?_⟩
                        refine WA.done (by kernel_rfl) ?_
                        clear hC
                        refine WR.seq ?_
                        refine WR.seq ?_
                        refine WR.region rfl ?_
                        refine S.assignC rfl ?_
                        refine WS.done ?_
                        refine WR.block ?_
                        refine WR.loopE (fun rq mm rr wr => ∃ (q : Nat) (ys : List Int), mm = ys.length - q ∧ (q ≤ ys.length ∧ ys.length = u65.items.length) ∧ rr 17 = .int .i64 (q : Int) ∧ Agr [2, 7, 9, 11, 12, 13, 14, 15, 16] rr rq ∧ St wr R92 (Ow 2 (encI .i64) 1 v68 ys :: Ow 2 (encI .i64) 1 v77 (offer n1 mo m1 u65.first u65.items).1 :: Ow 2 (encI .i64) 1 v92 (offer n1 mo m1 u65.first u65.items).1 :: blk bh25 (.cells (#[.int .i64 (offer n1 mo m1 u65.first u65.items).2.2.1, .int .i64 mo, .map (some bm25)]) 51 (0, 0)) :: Mp Try.prog 2 bm25 (mE iE (offer n1 mo m1 u65.first u65.items).2.2.2) :: blk bh31 (.cells (#[.int .i64 (offer n1 mo m1 u65.first u65.items).2.2.1, .int .i64 mo, vr92]) 44 (0, 0)) :: L)) ⟨0, _, rfl, (by exact ⟨by omega, rfl⟩), rfl, ⟨rfl, rfl, rfl, rfl, rfl, rfl, rfl, rfl, rfl, trivial⟩, ((((((hS92.at_ (i := 1) rfl).at_ (i := 5) rfl).at_ (i := 5) rfl).at_ (i := 3) rfl).at_ (i := 5) rfl).at_ (i := 5) rfl)⟩ ?_
                        rintro mm rr w1002 ⟨q, ys, hm1002, ⟨hq, hyl⟩, hr1002_17, hA1002, hS1002⟩
                        obtain ⟨rr, rfl⟩ := agrBack hA1002
                        clear hA1002
                        obtain ⟨rr, rfl⟩ := back1 (r := rr) hr1002_17
                        clear hr1002_17
                        obtain ⟨ay, cy, rfl⟩ := hS1002.rowLen
                        refine WR.seq ?_
                        refine WR.seq ?_
                        refine WR.region rfl ?_
                        refine S.moveT rfl ?_
                        refine S.moveT rfl ?_
                        refine S.lenSl Try.underlying32 rfl rfl ?_
                        refine S.lss rfl rfl rfl ?_
                        refine WS.done ?_
                        refine WR.condD rfl (fun c98 => ?_) (fun c98 => ?_)
                        ·
                          skip
                          refine WR.skip ?_
                          refine WR.seq ?_
                          refine WR.block ?_
                          refine WR.region rfl ?_
                          refine S.moveT rfl ?_
                          refine S.moveT rfl ?_
                          refine S.indexOw (i := 0) hS1002 rfl Try.underlying32 ti2 rfl rfl (by omega) rfl ?_
                          refine S.loadOw (i := 0) hS1002 rfl (fun _ _ => rfl) Try.underlying2 rfl rfl (List.getElem?_eq_getElem (by omega)) rfl rfl ?_
                          first
                            | refine S.addN rfl rfl rfl (by omega) ?_
                            | refine S.add rfl rfl rfl ?_
                          refine S.indexOw (i := 0) hS1002 rfl Try.underlying32 ti2 rfl rfl (by omega) rfl ?_
                          refine S.storeOw (i := 0) hS1002 rfl (fun _ _ => rfl) ti2 rfl (by omega) rfl rfl rfl rfl rfl ?_
                          intro w2015 hS2015; clear hS1002
                          refine WS.done ?_
                          refine WR.region rfl ?_
                          refine S.moveT rfl ?_
                          first
                            | refine S.addN rfl rfl rfl (by omega) ?_
                            | refine S.add rfl rfl rfl ?_
                          refine S.assignT rfl ?_
                          refine WS.done ?_
                          exact ⟨_, (by rw [List.length_set]; omega), ⟨q + 1, _, rfl, (by exact ⟨by rw [List.length_set]; omega, by rw [List.length_set]; exact hyl⟩), rfl, ⟨rfl, rfl, rfl, rfl, rfl, rfl, rfl, rfl, rfl, trivial⟩, hS2015⟩⟩
                        ·
                          skip
                          refine WR.exit ?_
                          refine WR.seq ?_
                          obtain ⟨RA, hRA, hroA, hSA⟩ := (hS1002.at_ (i := 1) rfl).freeze (fun _ _ => rfl)
                          obtain ⟨RB, hRB, hroB, hSB⟩ := (hSA.at_ (i := 1) rfl).freeze (fun _ _ => rfl)
                          replace hroA := hroA.mono hRB
                          replace hro92 := hro92.mono (hRA.trans hRB)
                          refine WR.region rfl ?_
                          refine S.moveT rfl ?_
                          refine S.moveT rfl ?_
                          refine S.neq rfl rfl rfl ?_
                          refine S.isFD (d := 109) rfl (by simp) ?_
                          refine S.moveT rfl ?_
                          refine S.moveT rfl ?_
                          refine S.moveT rfl ?_
                          refine S.call ent14 rfl (u_same hSB (by exact hroA) (by exact hroB) (by have := (hI1.offer (first := u65.first) (xs := u65.items) (by omega) hEu.2.2.2.1).2.2.1; omega)) rfl ?_
                          rintro _ w113 ⟨rfl, hS113⟩
                          clear hSB
                          refine S.isTD (d := 113) rfl (by rfl) ?_
                          refine S.not rfl rfl ?_
                          refine S.pickF rfl rfl ?_
                          refine WS.done ?_
                          refine WR.condF rfl ?_
                          refine WR.skip ?_
                          exact ⟨_, _, _, _, (by first | exact ⟨(hI1.offer (by omega) hEu.2.2.2.1).1, (by repeat (first | assumption | exact Kn.le.refl _ | refine Kn.le.trans ?_ (by assumption))), hro92⟩ | exact ⟨hI1.nil, (by repeat (first | assumption | exact Kn.le.refl _ | refine Kn.le.trans ?_ (by assumption))), Ro.nil⟩ | exact ⟨hI1, (by repeat (first | assumption | exact Kn.le.refl _ | refine Kn.le.trans ?_ (by assumption))), hroj⟩), ⟨rfl, rfl, rfl, rfl, trivial⟩, hS113.drop⟩
                  ·
                    skip
                    refine S.fieldElt Try.underlying34 rfl ti32 rfl rfl rfl ?_
                    refine WS.done ⟨fun _ => hS6002, ?_⟩
                    replace hC := hS6002
                    refine WA.two (fuel := 8) 4 10 rfl rfl (by kernel_rfl) rfl ?_ ?_
                    ·
                      skip
                      refine S.fieldElt Try.underlying34 rfl ti2 rfl rfl rfl ?_
                      refine WS.done ⟨fun _ => hS6002, ?_⟩
                      replace hC := hS6002
                      refine WA.two (fuel := 7) 5 10 rfl rfl (by kernel_rfl) rfl ?_ ?_
                      ·
                        skip
                        refine S.loadRoF hS6002 hc84 rfl Try.underlying2 rfl rfl rfl ?_
                        refine WS.done ⟨fun _ => hS6002, ?_⟩
                        replace hC := hS6002
                        refine WA.one (fuel := 6) 10 rfl (by kernel_rfl) rfl ?_
                        refine S.loadRoF hS6002 hc89 rfl Try.underlying32 rfl rfl rfl ?_
                        refine WS.done ⟨fun _ => hS6002, ?_⟩
                        replace hC := hS6002
                        refine WA.one (fuel := 5) 11 rfl (by kernel_rfl) rfl ?_
                        refine S.call ent13 rfl (r_offer (((((hS6002.at_ (i := 3) rfl).at_ (i := 3) rfl).at_ (i := 3) rfl).at_ (i := 3) rfl).at_ (i := 4) rfl) (by exact hroj) (by exact hI1) (by exact hEu.2.2.1) (by exact hEu.1.mono hRb) (by exact hEu.2.2.2.1) (by omega)) rfl ?_
                        rintro _ w92 ⟨v92, R92, vr92, rfl, hR92, hro92, hS92⟩
                        clear hS6002
                        replace hrc := hrc.mono hR92
                        replace hroj := hroj.mono hR92
                        refine WS.done ⟨fun h => absurd h (by decide), ?_⟩
                        refine WA.one (fuel := 4) 12 rfl (by kernel_rfl) rfl ?_
                        refine S.moveT rfl ?_
                        refine WS.done ⟨fun h => absurd h (by decide), ?_⟩
                        refine WA.takeP (fuel := 3) 13 rfl (by kernel_rfl) (by kernel_rfl) (by kernel_rfl) rfl rfl ?_
                        refine Q.extract rfl rfl rfl ?_
                        refine WQ.done ?_
                        refine WA.takeP (fuel := 2) 14 rfl (by kernel_rfl) (by kernel_rfl) (by kernel_rfl) rfl rfl ?_
                        refine Q.extract rfl rfl rfl ?_
                        refine WQ.done ?_
                        refine WA.one (fuel := 1) 15 rfl (by kernel_rfl) rfl ?_
                        refine S.assignT rfl ?_
                        refine WS.done ⟨fun h => absurd h (by decide), ?_⟩
                        refine WA.one (fuel := 0) 16 rfl (by kernel_rfl) rfl ?_
                        refine S.assignT rfl ?_
                        refine WS.done ⟨fun h => absurd h (by decide), ?_⟩
                        refine WA.done (by kernel_rfl) ?_
                        clear hC
                        refine WR.seq ?_
                        refine WR.seq ?_
                        refine WR.region rfl ?_
                        refine S.assignC rfl ?_
                        refine WS.done ?_
                        refine WR.block ?_
                        refine WR.loopE (fun rq mm rr wr => ∃ (q : Nat) (ys : List Int), mm = ys.length - q ∧ (q ≤ ys.length ∧ ys.length = u65.items.length) ∧ rr 17 = .int .i64 (q : Int) ∧ Agr [2, 7, 9, 11, 12, 13, 14, 15, 16] rr rq ∧ St wr R92 (Ow 2 (encI .i64) 1 v68 ys :: Ow 2 (encI .i64) 1 v77 (offer n1 mo m1 u65.first u65.items).1 :: Ow 2 (encI .i64) 1 v92 (offer n1 mo m1 u65.first u65.items).1 :: blk bh25 (.cells (#[.int .i64 (offer n1 mo m1 u65.first u65.items).2.2.1, .int .i64 mo, .map (some bm25)]) 51 (0, 0)) :: Mp Try.prog 2 bm25 (mE iE (offer n1 mo m1 u65.first u65.items).2.2.2) :: blk bh31 (.cells (#[.int .i64 (offer n1 mo m1 u65.first u65.items).2.2.1, .int .i64 mo, vr92]) 44 (0, 0)) :: L)) ⟨0, _, rfl, (by exact ⟨by omega, rfl⟩), rfl, ⟨rfl, rfl, rfl, rfl, rfl, rfl, rfl, rfl, rfl, trivial⟩, ((((((hS92.at_ (i := 1) rfl).at_ (i := 5) rfl).at_ (i := 5) rfl).at_ (i := 3) rfl).at_ (i := 5) rfl).at_ (i := 5) rfl)⟩ ?_
                        rintro mm rr w1002 ⟨q, ys, hm1002, ⟨hq, hyl⟩, hr1002_17, hA1002, hS1002⟩
                        obtain ⟨rr, rfl⟩ := agrBack hA1002
                        clear hA1002
                        obtain ⟨rr, rfl⟩ := back1 (r := rr) hr1002_17
                        clear hr1002_17
                        obtain ⟨ay, cy, rfl⟩ := hS1002.rowLen
                        refine WR.seq ?_
                        refine WR.seq ?_
                        refine WR.region rfl ?_
                        refine S.moveT rfl ?_
                        refine S.moveT rfl ?_
                        refine S.lenSl Try.underlying32 rfl rfl ?_
                        refine S.lss rfl rfl rfl ?_
                        refine WS.done ?_
                        refine WR.condD rfl (fun c98 => ?_) (fun c98 => ?_)
                        ·
                          skip
                          refine WR.skip ?_
                          refine WR.seq ?_
                          refine WR.block ?_
                          refine WR.region rfl ?_
                          refine S.moveT rfl ?_
                          refine S.moveT rfl ?_
                          refine S.indexOw (i := 0) hS1002 rfl Try.underlying32 ti2 rfl rfl (by omega) rfl ?_
                          refine S.loadOw (i := 0) hS1002 rfl (fun _ _ => rfl) Try.underlying2 rfl rfl (List.getElem?_eq_getElem (by omega)) rfl rfl ?_
                          first
                            | refine S.addN rfl rfl rfl (by omega) ?_
                            | refine S.add rfl rfl rfl ?_
                          refine S.indexOw (i := 0) hS1002 rfl Try.underlying32 ti2 rfl rfl (by omega) rfl ?_
                          refine S.storeOw (i := 0) hS1002 rfl (fun _ _ => rfl) ti2 rfl (by omega) rfl rfl rfl rfl rfl ?_
                          intro w2016 hS2016; clear hS1002
                          refine WS.done ?_
                          refine WR.region rfl ?_
                          refine S.moveT rfl ?_
                          first
                            | refine S.addN rfl rfl rfl (by omega) ?_
                            | refine S.add rfl rfl rfl ?_
                          refine S.assignT rfl ?_
                          refine WS.done ?_
                          exact ⟨_, (by rw [List.length_set]; omega), ⟨q + 1, _, rfl, (by exact ⟨by rw [List.length_set]; omega, by rw [List.length_set]; exact hyl⟩), rfl, ⟨rfl, rfl, rfl, rfl, rfl, rfl, rfl, rfl, rfl, trivial⟩, hS2016⟩⟩
                        ·
                          skip
                          refine WR.exit ?_
                          refine WR.seq ?_
                          obtain ⟨RA, hRA, hroA, hSA⟩ := (hS1002.at_ (i := 1) rfl).freeze (fun _ _ => rfl)
                          obtain ⟨RB, hRB, hroB, hSB⟩ := (hSA.at_ (i := 1) rfl).freeze (fun _ _ => rfl)
                          replace hroA := hroA.mono hRB
                          replace hro92 := hro92.mono (hRA.trans hRB)
                          refine WR.region rfl ?_
                          refine S.moveT rfl ?_
                          refine S.moveT rfl ?_
                          refine S.neq rfl rfl rfl ?_
                          refine S.isFD (d := 109) rfl (by simp) ?_
                          refine S.moveT rfl ?_
                          refine S.moveT rfl ?_
                          refine S.moveT rfl ?_
                          refine S.call ent14 rfl (u_same hSB (by exact hroA) (by exact hroB) (by have := (hI1.offer (first := u65.first) (xs := u65.items) (by omega) hEu.2.2.2.1).2.2.1; omega)) rfl ?_
                          rintro _ w113 ⟨rfl, hS113⟩
                          clear hSB
                          refine S.isTD (d := 113) rfl (by rfl) ?_
                          refine S.not rfl rfl ?_
                          refine S.pickF rfl rfl ?_
                          refine WS.done ?_
                          refine WR.condF rfl ?_
                          refine WR.skip ?_
                          exact ⟨_, _, _, _, (by first | exact ⟨(hI1.offer (by omega) hEu.2.2.2.1).1, (by repeat (first | assumption | exact Kn.le.refl _ | refine Kn.le.trans ?_ (by assumption))), hro92⟩ | exact ⟨hI1.nil, (by repeat (first | assumption | exact Kn.le.refl _ | refine Kn.le.trans ?_ (by assumption))), Ro.nil⟩ | exact ⟨hI1, (by repeat (first | assumption | exact Kn.le.refl _ | refine Kn.le.trans ?_ (by assumption))), hroj⟩), ⟨rfl, rfl, rfl, rfl, trivial⟩, hS113.drop⟩
                      ·
                        skip
                        refine S.loadRoF hS6002 hc89 rfl Try.underlying32 rfl rfl rfl ?_
                        refine WS.done ⟨fun _ => hS6002, ?_⟩
                        replace hC := hS6002
                        refine WA.one (fuel := 6) 5 rfl (by kernel_rfl) rfl ?_
                        refine S.loadRoF hS6002 hc84 rfl Try.underlying2 rfl rfl rfl ?_
                        refine WS.done ⟨fun _ => hS6002, ?_⟩
                        replace hC := hS6002
                        refine WA.one (fuel := 5) 11 rfl (by kernel_rfl) rfl ?_
                        refine S.call ent13 rfl (r_offer (((((hS6002.at_ (i := 3) rfl).at_ (i := 3) rfl).at_ (i := 3) rfl).at_ (i := 3) rfl).at_ (i := 4) rfl) (by exact hroj) (by exact hI1) (by exact hEu.2.2.1) (by exact hEu.1.mono hRb) (by exact hEu.2.2.2.1) (by omega)) rfl ?_
                        rintro _ w92 ⟨v92, R92, vr92, rfl, hR92, hro92, hS92⟩
                        clear hS6002
                        replace hrc := hrc.mono hR92
                        replace hroj := hroj.mono hR92
                        refine WS.done ⟨fun h => absurd h (by decide), ?_⟩
                        refine WA.one (fuel := 4) 12 rfl (by kernel_rfl) rfl ?_
                        refine S.moveT rfl ?_
                        refine WS.done ⟨fun h => absurd h (by decide), ?_⟩
                        refine WA.takeP (fuel := 3) 13 rfl (by kernel_rfl) (by kernel_rfl) (by kernel_rfl) rfl rfl ?_
                        refine Q.extract rfl rfl rfl ?_
                        refine WQ.done ?_
                        refine WA.takeP (fuel := 2) 14 rfl (by kernel_rfl) (by kernel_rfl) (by kernel_rfl) rfl rfl ?_
                        refine Q.extract rfl rfl rfl ?_
                        refine WQ.done ?_
                        refine WA.one (fuel := 1) 15 rfl (by kernel_rfl) rfl ?_
                        refine S.assignT rfl ?_
                        refine WS.done ⟨fun h => absurd h (by decide), ?_⟩
                        refine WA.one (fuel := 0) 16 rfl (by kernel_rfl) rfl ?_
                        refine S.assignT rfl ?_
                        refine WS.done ⟨fun h => absurd h (by decide), ?_⟩
                        refine WA.done (by kernel_rfl) ?_
                        clear hC
                        refine WR.seq ?_
                        refine WR.seq ?_
                        refine WR.region rfl ?_
                        refine S.assignC rfl ?_
                        refine WS.done ?_
                        refine WR.block ?_
                        refine WR.loopE (fun rq mm rr wr => ∃ (q : Nat) (ys : List Int), mm = ys.length - q ∧ (q ≤ ys.length ∧ ys.length = u65.items.length) ∧ rr 17 = .int .i64 (q : Int) ∧ Agr [2, 7, 9, 11, 12, 13, 14, 15, 16] rr rq ∧ St wr R92 (Ow 2 (encI .i64) 1 v68 ys :: Ow 2 (encI .i64) 1 v77 (offer n1 mo m1 u65.first u65.items).1 :: Ow 2 (encI .i64) 1 v92 (offer n1 mo m1 u65.first u65.items).1 :: blk bh25 (.cells (#[.int .i64 (offer n1 mo m1 u65.first u65.items).2.2.1, .int .i64 mo, .map (some bm25)]) 51 (0, 0)) :: Mp Try.prog 2 bm25 (mE iE (offer n1 mo m1 u65.first u65.items).2.2.2) :: blk bh31 (.cells (#[.int .i64 (offer n1 mo m1 u65.first u65.items).2.2.1, .int .i64 mo, vr92]) 44 (0, 0)) :: L)) ⟨0, _, rfl, (by exact ⟨by omega, rfl⟩), rfl, ⟨rfl, rfl, rfl, rfl, rfl, rfl, rfl, rfl, rfl, trivial⟩, ((((((hS92.at_ (i := 1) rfl).at_ (i := 5) rfl).at_ (i := 5) rfl).at_ (i := 3) rfl).at_ (i := 5) rfl).at_ (i := 5) rfl)⟩ ?_
                        rintro mm rr w1002 ⟨q, ys, hm1002, ⟨hq, hyl⟩, hr1002_17, hA1002, hS1002⟩
                        obtain ⟨rr, rfl⟩ := agrBack hA1002
                        clear hA1002
                        obtain ⟨rr, rfl⟩ := back1 (r := rr) hr1002_17
                        clear hr1002_17
                        obtain ⟨ay, cy, rfl⟩ := hS1002.rowLen
                        refine WR.seq ?_
                        refine WR.seq ?_
                        refine WR.region rfl ?_
                        refine S.moveT rfl ?_
                        refine S.moveT rfl ?_
                        refine S.lenSl Try.underlying32 rfl rfl ?_
                        refine S.lss rfl rfl rfl ?_
                        refine WS.done ?_
                        refine WR.condD rfl (fun c98 => ?_) (fun c98 => ?_)
                        ·
                          skip
                          refine WR.skip ?_
                          refine WR.seq ?_
                          refine WR.block ?_
                          refine WR.region rfl ?_
                          refine S.moveT rfl ?_
                          refine S.moveT rfl ?_
                          refine S.indexOw (i := 0) hS1002 rfl Try.underlying32 ti2 rfl rfl (by omega) rfl ?_
                          refine S.loadOw (i := 0) hS1002 rfl (fun _ _ => rfl) Try.underlying2 rfl rfl (List.getElem?_eq_getElem (by omega)) rfl rfl ?_
                          first
                            | refine S.addN rfl rfl rfl (by omega) ?_
                            | refine S.add rfl rfl rfl ?_
                          refine S.indexOw (i := 0) hS1002 rfl Try.underlying32 ti2 rfl rfl (by omega) rfl ?_
                          refine S.storeOw (i := 0) hS1002 rfl (fun _ _ => rfl) ti2 rfl (by omega) rfl rfl rfl rfl rfl ?_
                          intro w2017 hS2017; clear hS1002
                          refine WS.done ?_
                          refine WR.region rfl ?_
                          refine S.moveT rfl ?_
                          first
                            | refine S.addN rfl rfl rfl (by omega) ?_
                            | refine S.add rfl rfl rfl ?_
                          refine S.assignT rfl ?_
                          refine WS.done ?_
                          exact ⟨_, (by rw [List.length_set]; omega), ⟨q + 1, _, rfl, (by exact ⟨by rw [List.length_set]; omega, by rw [List.length_set]; exact hyl⟩), rfl, ⟨rfl, rfl, rfl, rfl, rfl, rfl, rfl, rfl, rfl, trivial⟩, hS2017⟩⟩
                        ·
                          skip
                          refine WR.exit ?_
                          refine WR.seq ?_
                          obtain ⟨RA, hRA, hroA, hSA⟩ := (hS1002.at_ (i := 1) rfl).freeze (fun _ _ => rfl)
                          obtain ⟨RB, hRB, hroB, hSB⟩ := (hSA.at_ (i := 1) rfl).freeze (fun _ _ => rfl)
                          replace hroA := hroA.mono hRB
                          replace hro92 := hro92.mono (hRA.trans hRB)
                          refine WR.region rfl ?_
                          refine S.moveT rfl ?_
                          refine S.moveT rfl ?_
                          refine S.neq rfl rfl rfl ?_
                          refine S.isFD (d := 109) rfl (by simp) ?_
                          refine S.moveT rfl ?_
                          refine S.moveT rfl ?_
                          refine S.moveT rfl ?_
                          refine S.call ent14 rfl (u_same hSB (by exact hroA) (by exact hroB) (by have := (hI1.offer (first := u65.first) (xs := u65.items) (by omega) hEu.2.2.2.1).2.2.1; omega)) rfl ?_
                          rintro _ w113 ⟨rfl, hS113⟩
                          clear hSB
                          refine S.isTD (d := 113) rfl (by rfl) ?_
                          refine S.not rfl rfl ?_
                          refine S.pickF rfl rfl ?_
                          refine WS.done ?_
                          refine WR.condF rfl ?_
                          refine WR.skip ?_
                          exact ⟨_, _, _, _, (by first | exact ⟨(hI1.offer (by omega) hEu.2.2.2.1).1, (by repeat (first | assumption | exact Kn.le.refl _ | refine Kn.le.trans ?_ (by assumption))), hro92⟩ | exact ⟨hI1.nil, (by repeat (first | assumption | exact Kn.le.refl _ | refine Kn.le.trans ?_ (by assumption))), Ro.nil⟩ | exact ⟨hI1, (by repeat (first | assumption | exact Kn.le.refl _ | refine Kn.le.trans ?_ (by assumption))), hroj⟩), ⟨rfl, rfl, rfl, rfl, trivial⟩, hS113.drop⟩
                    ·
                      skip
                      refine S.loadRoF hS6002 hc89 rfl Try.underlying32 rfl rfl rfl ?_
                      refine WS.done ⟨fun _ => hS6002, ?_⟩
                      replace hC := hS6002
                      refine WA.one (fuel := 7) 4 rfl (by kernel_rfl) rfl ?_
                      refine S.fieldElt Try.underlying34 rfl ti2 rfl rfl rfl ?_
                      refine WS.done ⟨fun _ => hS6002, ?_⟩
                      replace hC := hS6002
                      refine WA.one (fuel := 6) 5 rfl (by kernel_rfl) rfl ?_
                      refine S.loadRoF hS6002 hc84 rfl Try.underlying2 rfl rfl rfl ?_
                      refine WS.done ⟨fun _ => hS6002, ?_⟩
                      replace hC := hS6002
                      refine WA.one (fuel := 5) 11 rfl (by kernel_rfl) rfl ?_
                      refine S.call ent13 rfl (r_offer (((((hS6002.at_ (i := 3) rfl).at_ (i := 3) rfl).at_ (i := 3) rfl).at_ (i := 3) rfl).at_ (i := 4) rfl) (by exact hroj) (by exact hI1) (by exact hEu.2.2.1) (by exact hEu.1.mono hRb) (by exact hEu.2.2.2.1) (by omega)) rfl ?_
                      rintro _ w92 ⟨v92, R92, vr92, rfl, hR92, hro92, hS92⟩
                      clear hS6002
                      replace hrc := hrc.mono hR92
                      replace hroj := hroj.mono hR92
                      refine WS.done ⟨fun h => absurd h (by decide), ?_⟩
                      refine WA.one (fuel := 4) 12 rfl (by kernel_rfl) rfl ?_
                      refine S.moveT rfl ?_
                      refine WS.done ⟨fun h => absurd h (by decide), ?_⟩
                      refine WA.takeP (fuel := 3) 13 rfl (by kernel_rfl) (by kernel_rfl) (by kernel_rfl) rfl rfl ?_
                      refine Q.extract rfl rfl rfl ?_
                      refine WQ.done ?_
                      refine WA.takeP (fuel := 2) 14 rfl (by kernel_rfl) (by kernel_rfl) (by kernel_rfl) rfl rfl ?_
                      refine Q.extract rfl rfl rfl ?_
                      refine WQ.done ?_
                      refine WA.one (fuel := 1) 15 rfl (by kernel_rfl) rfl ?_
                      refine S.assignT rfl ?_
                      refine WS.done ⟨fun h => absurd h (by decide), ?_⟩
                      refine WA.one (fuel := 0) 16 rfl (by kernel_rfl) rfl ?_
                      refine S.assignT rfl ?_
                      refine WS.done ⟨fun h => absurd h (by decide), ?_⟩
                      refine WA.done (by kernel_rfl) ?_
                      clear hC
                      refine WR.seq ?_
                      refine WR.seq ?_
                      refine WR.region rfl ?_
                      refine S.assignC rfl ?_
                      refine WS.done ?_
                      refine WR.block ?_
                      refine WR.loopE (fun rq mm rr wr => ∃ (q : Nat) (ys : List Int), mm = ys.length - q ∧ (q ≤ ys.length ∧ ys.length = u65.items.length) ∧ rr 17 = .int .i64 (q : Int) ∧ Agr [2, 7, 9, 11, 12, 13, 14, 15, 16] rr rq ∧ St wr R92 (Ow 2 (encI .i64) 1 v68 ys :: Ow 2 (encI .i64) 1 v77 (offer n1 mo m1 u65.first u65.items).1 :: Ow 2 (encI .i64) 1 v92 (offer n1 mo m1 u65.first u65.items).1 :: blk bh25 (.cells (#[.int .i64 (offer n1 mo m1 u65.first u65.items).2.2.1, .int .i64 mo, .map (some bm25)]) 51 (0, 0)) :: Mp Try.prog 2 bm25 (mE iE (offer n1 mo m1 u65.first u65.items).2.2.2) :: blk bh31 (.cells (#[.int .i64 (offer n1 mo m1 u65.first u65.items).2.2.1, .int .i64 mo, vr92]) 44 (0, 0)) :: L)) ⟨0, _, rfl, (by exact ⟨by omega, rfl⟩), rfl, ⟨rfl, rfl, rfl, rfl, rfl, rfl, rfl, rfl, rfl, trivial⟩, ((((((hS92.at_ (i := 1) rfl).at_ (i := 5) rfl).at_ (i := 5) rfl).at_ (i := 3) rfl).at_ (i := 5) rfl).at_ (i := 5) rfl)⟩ ?_
                      rintro mm rr w1002 ⟨q, ys, hm1002, ⟨hq, hyl⟩, hr1002_17, hA1002, hS1002⟩
                      obtain ⟨rr, rfl⟩ := agrBack hA1002
                      clear hA1002
                      obtain ⟨rr, rfl⟩ := back1 (r := rr) hr1002_17
                      clear hr1002_17
                      obtain ⟨ay, cy, rfl⟩ := hS1002.rowLen
                      refine WR.seq ?_
                      refine WR.seq ?_
                      refine WR.region rfl ?_
                      refine S.moveT rfl ?_
                      refine S.moveT rfl ?_
                      refine S.lenSl Try.underlying32 rfl rfl ?_
                      refine S.lss rfl rfl rfl ?_
                      refine WS.done ?_
                      refine WR.condD rfl (fun c98 => ?_) (fun c98 => ?_)
                      ·
                        skip
                        refine WR.skip ?_
                        refine WR.seq ?_
                        refine WR.block ?_
                        refine WR.region rfl ?_
                        refine S.moveT rfl ?_
                        refine S.moveT rfl ?_
                        refine S.indexOw (i := 0) hS1002 rfl Try.underlying32 ti2 rfl rfl (by omega) rfl ?_
                        refine S.loadOw (i := 0) hS1002 rfl (fun _ _ => rfl) Try.underlying2 rfl rfl (List.getElem?_eq_getElem (by omega)) rfl rfl ?_
                        first
                          | refine S.addN rfl rfl rfl (by omega) ?_
                          | refine S.add rfl rfl rfl ?_
                        refine S.indexOw (i := 0) hS1002 rfl Try.underlying32 ti2 rfl rfl (by omega) rfl ?_
                        refine S.storeOw (i := 0) hS1002 rfl (fun _ _ => rfl) ti2 rfl (by omega) rfl rfl rfl rfl rfl ?_
                        intro w2018 hS2018; clear hS1002
                        refine WS.done ?_
                        refine WR.region rfl ?_
                        refine S.moveT rfl ?_
                        first
                          | refine S.addN rfl rfl rfl (by omega) ?_
                          | refine S.add rfl rfl rfl ?_
                        refine S.assignT rfl ?_
                        refine WS.done ?_
                        exact ⟨_, (by rw [List.length_set]; omega), ⟨q + 1, _, rfl, (by exact ⟨by rw [List.length_set]; omega, by rw [List.length_set]; exact hyl⟩), rfl, ⟨rfl, rfl, rfl, rfl, rfl, rfl, rfl, rfl, rfl, trivial⟩, hS2018⟩⟩
                      ·
                        skip
                        refine WR.exit ?_
                        refine WR.seq ?_
                        obtain ⟨RA, hRA, hroA, hSA⟩ := (hS1002.at_ (i := 1) rfl).freeze (fun _ _ => rfl)
                        obtain ⟨RB, hRB, hroB, hSB⟩ := (hSA.at_ (i := 1) rfl).freeze (fun _ _ => rfl)
                        replace hroA := hroA.mono hRB
                        replace hro92 := hro92.mono (hRA.trans hRB)
                        refine WR.region rfl ?_
                        refine S.moveT rfl ?_
                        refine S.moveT rfl ?_
                        refine S.neq rfl rfl rfl ?_
                        refine S.isFD (d := 109) rfl (by simp) ?_
                        refine S.moveT rfl ?_
                        refine S.moveT rfl ?_
                        refine S.moveT rfl ?_
                        refine S.call ent14 rfl (u_same hSB (by exact hroA) (by exact hroB) (by have := (hI1.offer (first := u65.first) (xs := u65.items) (by omega) hEu.2.2.2.1).2.2.1; omega)) rfl ?_
                        rintro _ w113 ⟨rfl, hS113⟩
                        clear hSB
                        refine S.isTD (d := 113) rfl (by rfl) ?_
                        refine S.not rfl rfl ?_
                        refine S.pickF rfl rfl ?_
                        refine WS.done ?_
                        refine WR.condF rfl ?_
                        refine WR.skip ?_
                        exact ⟨_, _, _, _, (by first | exact ⟨(hI1.offer (by omega) hEu.2.2.2.1).1, (by repeat (first | assumption | exact Kn.le.refl _ | refine Kn.le.trans ?_ (by assumption))), hro92⟩ | exact ⟨hI1.nil, (by repeat (first | assumption | exact Kn.le.refl _ | refine Kn.le.trans ?_ (by assumption))), Ro.nil⟩ | exact ⟨hI1, (by repeat (first | assumption | exact Kn.le.refl _ | refine Kn.le.trans ?_ (by assumption))), hroj⟩), ⟨rfl, rfl, rfl, rfl, trivial⟩, hS113.drop⟩
                ·
                  skip
                  refine S.fieldElt Try.underlying34 rfl ti32 rfl rfl rfl ?_
                  refine WS.done ⟨fun _ => hS6002, ?_⟩
                  replace hC := hS6002
                  refine WA.two (fuel := 9) 3 10 rfl rfl (by kernel_rfl) rfl ?_ ?_
                  ·
                    skip
                    refine S.indexRo hrc Try.underlying22 ti34 rfl rfl (by omega) rfl ?_
                    intro ad84 u84 hu84 hl84 hc84
                    obtain rfl : u65 = u84 := Option.some.inj (hu65.symm.trans hu84)
                    refine WS.done ⟨fun _ => hS6002, ?_⟩
                    replace hC := hS6002
                    refine WA.two (fuel := 8) 4 10 rfl rfl (by kernel_rfl) rfl ?_ ?_
                    ·
                      skip
                      refine S.fieldElt Try.underlying34 rfl ti2 rfl rfl rfl ?_
                      refine WS.done ⟨fun _ => hS6002, ?_⟩
                      replace hC := hS6002
                      refine WA.two (fuel := 7) 5 10 rfl rfl (by kernel_rfl) rfl ?_ ?_
                      ·
                        skip
                        refine S.loadRoF hS6002 hc84 rfl Try.underlying2 rfl rfl rfl ?_
                        refine WS.done ⟨fun _ => hS6002, ?_⟩
                        replace hC := hS6002
                        refine WA.one (fuel := 6) 10 rfl (by kernel_rfl) rfl ?_
                        refine S.loadRoF hS6002 hc89 rfl Try.underlying32 rfl rfl rfl ?_
                        refine WS.done ⟨fun _ => hS6002, ?_⟩
                        replace hC := hS6002
                        refine WA.one (fuel := 5) 11 rfl (by kernel_rfl) rfl ?_
                        refine S.call ent13 rfl (r_offer (((((hS6002.at_ (i := 3) rfl).at_ (i := 3) rfl).at_ (i := 3) rfl).at_ (i := 3) rfl).at_ (i := 4) rfl) (by exact hroj) (by exact hI1) (by exact hEu.2.2.1) (by exact hEu.1.mono hRb) (by exact hEu.2.2.2.1) (by omega)) rfl ?_
                        rintro _ w92 ⟨v92, R92, vr92, rfl, hR92, hro92, hS92⟩
                        clear hS6002
                        replace hrc := hrc.mono hR92
                        replace hroj := hroj.mono hR92
                        refine WS.done ⟨fun h => absurd h (by decide), ?_⟩
                        refine WA.one (fuel := 4) 12 rfl (by kernel_rfl) rfl ?_
                        refine S.moveT rfl ?_
                        refine WS.done ⟨fun h => absurd h (by decide), ?_⟩
                        refine WA.takeP (fuel := 3) 13 rfl (by kernel_rfl) (by kernel_rfl) (by kernel_rfl) rfl rfl ?_
                        refine Q.extract rfl rfl rfl ?_
                        refine WQ.done ?_
                        refine WA.takeP (fuel := 2) 14 rfl (by kernel_rfl) (by kernel_rfl) (by kernel_rfl) rfl rfl ?_
                        refine Q.extract rfl rfl rfl ?_
                        refine WQ.done ?_
                        refine WA.one (fuel := 1) 15 rfl (by kernel_rfl) rfl ?_
                        refine S.assignT rfl ?_
                        refine WS.done ⟨fun h => absurd h (by decide), ?_⟩
                        refine WA.one (fuel := 0) 16 rfl (by kernel_rfl) rfl ?_
                        refine S.assignT rfl ?_
                        refine WS.done ⟨fun h => absurd h (by decide), ?_⟩
                        refine WA.done (by kernel_rfl) ?_
                        clear hC
                        refine WR.seq ?_
                        refine WR.seq ?_
                        refine WR.region rfl ?_
                        refine S.assignC rfl ?_
                        refine WS.done ?_
                        refine WR.block ?_
                        refine WR.loopE (fun rq mm rr wr => ∃ (q : Nat) (ys : List Int), mm = ys.length - q ∧ (q ≤ ys.length ∧ ys.length = u65.items.length) ∧ rr 17 = .int .i64 (q : Int) ∧ Agr [2, 7, 9, 11, 12, 13, 14, 15, 16] rr rq ∧ St wr R92 (Ow 2 (encI .i64) 1 v68 ys :: Ow 2 (encI .i64) 1 v77 (offer n1 mo m1 u65.first u65.items).1 :: Ow 2 (encI .i64) 1 v92 (offer n1 mo m1 u65.first u65.items).1 :: blk bh25 (.cells (#[.int .i64 (offer n1 mo m1 u65.first u65.items).2.2.1, .int .i64 mo, .map (some bm25)]) 51 (0, 0)) :: Mp Try.prog 2 bm25 (mE iE (offer n1 mo m1 u65.first u65.items).2.2.2) :: blk bh31 (.cells (#[.int .i64 (offer n1 mo m1 u65.first u65.items).2.2.1, .int .i64 mo, vr92]) 44 (0, 0)) :: L)) ⟨0, _, rfl, (by exact ⟨by omega, rfl⟩), rfl, ⟨rfl, rfl, rfl, rfl, rfl, rfl, rfl, rfl, rfl, trivial⟩, ((((((hS92.at_ (i := 1) rfl).at_ (i := 5) rfl).at_ (i := 5) rfl).at_ (i := 3) rfl).at_ (i := 5) rfl).at_ (i := 5) rfl)⟩ ?_
                        rintro mm rr w1002 ⟨q, ys, hm1002, ⟨hq, hyl⟩, hr1002_17, hA1002, hS1002⟩
                        obtain ⟨rr, rfl⟩ := agrBack hA1002
                        clear hA1002
                        obtain ⟨rr, rfl⟩ := back1 (r := rr) hr1002_17
                        clear hr1002_17
                        obtain ⟨ay, cy, rfl⟩ := hS1002.rowLen
                        refine WR.seq ?_
                        refine WR.seq ?_
                        refine WR.region rfl ?_
                        refine S.moveT rfl ?_
                        refine S.moveT rfl ?_
                        refine S.lenSl Try.underlying32 rfl rfl ?_
                        refine S.lss rfl rfl rfl ?_
                        refine WS.done ?_
                        refine WR.condD rfl (fun c98 => ?_) (fun c98 => ?_)
                        ·
                          skip
                          refine WR.skip ?_
                          refine WR.seq ?_
                          refine WR.block ?_
                          refine WR.region rfl ?_
                          refine S.moveT rfl ?_
                          refine S.moveT rfl ?_
                          refine S.indexOw (i := 0) hS1002 rfl Try.underlying32 ti2 rfl rfl (by omega) rfl ?_
                          refine S.loadOw (i := 0) hS1002 rfl (fun _ _ => rfl) Try.underlying2 rfl rfl (List.getElem?_eq_getElem (by omega)) rfl rfl ?_
                          first
                            | refine S.addN rfl rfl rfl (by omega) ?_
                            | refine S.add rfl rfl rfl ?_
                          refine S.indexOw (i := 0) hS1002 rfl Try.underlying32 ti2 rfl rfl (by omega) rfl ?_
                          refine S.storeOw (i := 0) hS1002 rfl (fun _ _ => rfl) ti2 rfl (by omega) rfl rfl rfl rfl rfl ?_
                          intro w2019 hS2019; clear hS1002
                          refine WS.done ?_
                          refine WR.region rfl ?_
                          refine S.moveT rfl ?_
                          first
                            | refine S.addN rfl rfl rfl (by omega) ?_
                            | refine S.add rfl rfl rfl ?_
                          refine S.assignT rfl ?_
                          refine WS.done ?_
                          exact ⟨_, (by rw [List.length_set]; omega), ⟨q + 1, _, rfl, (by exact ⟨by rw [List.length_set]; omega, by rw [List.length_set]; exact hyl⟩), rfl, ⟨rfl, rfl, rfl, rfl, rfl, rfl, rfl, rfl, rfl, trivial⟩, hS2019⟩⟩
                        ·
                          skip
                          refine WR.exit ?_
                          refine WR.seq ?_
                          obtain ⟨RA, hRA, hroA, hSA⟩ := (hS1002.at_ (i := 1) rfl).freeze (fun _ _ => rfl)
                          obtain ⟨RB, hRB, hroB, hSB⟩ := (hSA.at_ (i := 1) rfl).freeze (fun _ _ => rfl)
                          replace hroA := hroA.mono hRB
                          replace hro92 := hro92.mono (hRA.trans hRB)
                          refine WR.region rfl ?_
                          refine S.moveT rfl ?_
                          refine S.moveT rfl ?_
                          refine S.neq rfl rfl rfl ?_
                          refine S.isFD (d := 109) rfl (by simp) ?_
                          refine S.moveT rfl ?_
                          refine S.moveT rfl ?_
                          refine S.moveT rfl ?_
                          refine S.call ent14 rfl (u_same hSB (by exact hroA) (by exact hroB) (by have := (hI1.offer (first := u65.first) (xs := u65.items) (by omega) hEu.2.2.2.1).2.2.1; omega)) rfl ?_
                          rintro _ w113 ⟨rfl, hS113⟩
                          clear hSB
                          refine S.isTD (d := 113) rfl (by rfl) ?_
                          refine S.not rfl rfl ?_
                          refine S.pickF rfl rfl ?_
                          refine WS.done ?_
                          refine WR.condF rfl ?_
                          refine WR.skip ?_
                          exact ⟨_, _, _, _, (by first | exact ⟨(hI1.offer (by omega) hEu.2.2.2.1).1, (by repeat (first | assumption | exact Kn.le.refl _ | refine Kn.le.trans ?_ (by assumption))), hro92⟩ | exact ⟨hI1.nil, (by repeat (first | assumption | exact Kn.le.refl _ | refine Kn.le.trans ?_ (by assumption))), Ro.nil⟩ | exact ⟨hI1, (by repeat (first | assumption | exact Kn.le.refl _ | refine Kn.le.trans ?_ (by assumption))), hroj⟩), ⟨rfl, rfl, rfl, rfl, trivial⟩, hS113.drop⟩
                      ·
                        skip
                        refine S.loadRoF hS6002 hc89 rfl Try.underlying32 rfl rfl rfl ?_
                        refine WS.done ⟨fun _ => hS6002, ?_⟩
                        replace hC := hS6002
                        refine WA.one (fuel := 6) 5 rfl (by kernel_rfl) rfl ?_
                        refine S.loadRoF hS6002 hc84 rfl Try.underlying2 rfl rfl rfl ?_
                        refine WS.done ⟨fun _ => hS6002, ?_⟩
                        replace hC := hS6002
                        refine WA.one (fuel := 5) 11 rfl (by kernel_rfl) rfl ?_
                        refine S.call ent13 rfl (r_offer (((((hS6002.at_ (i := 3) rfl).at_ (i := 3) rfl).at_ (i := 3) rfl).at_ (i := 3) rfl).at_ (i := 4) rfl) (by exact hroj) (by exact hI1) (by exact hEu.2.2.1) (by exact hEu.1.mono hRb) (by exact hEu.2.2.2.1) (by omega)) rfl ?_
                        rintro _ w92 ⟨v92, R92, vr92, rfl, hR92, hro92, hS92⟩
                        clear hS6002
                        replace hrc := hrc.mono hR92
                        replace hroj := hroj.mono hR92
                        refine WS.done ⟨fun h => absurd h (by decide), ?_⟩
                        refine WA.one (fuel := 4) 12 rfl (by kernel_rfl) rfl ?_
                        refine S.moveT rfl ?_
                        refine WS.done ⟨fun h => absurd h (by decide), ?_⟩
                        refine WA.takeP (fuel := 3) 13 rfl (by kernel_rfl) (by kernel_rfl) (by kernel_rfl) rfl rfl ?_
                        refine Q.extract rfl rfl rfl ?_
                        refine WQ.done ?_
                        refine WA.takeP (fuel := 2) 14 rfl (by kernel_rfl) (by kernel_rfl) (by kernel_rfl) rfl rfl ?_
                        refine Q.extract rfl rfl rfl ?_
                        refine WQ.done ?_
                        refine WA.one (fuel := 1) 15 rfl (by kernel_rfl) rfl ?_
                        refine S.assignT rfl ?_
                        refine WS.done ⟨fun h => absurd h (by decide), ?_⟩
                        refine WA.one (fuel := 0) 16 rfl (by kernel_rfl) rfl ?_
                        refine S.assignT rfl ?_
                        refine WS.done ⟨fun h => absurd h (by decide), ?_⟩
                        refine WA.done (by kernel_rfl) ?_
                        clear hC
                        refine WR.seq ?_
                        refine WR.seq ?_
                        refine WR.region rfl ?_
                        refine S.assignC rfl ?_
                        refine WS.done ?_
                        refine WR.block ?_
                        refine WR.loopE (fun rq mm rr wr => ∃ (q : Nat) (ys : List Int), mm = ys.length - q ∧ (q ≤ ys.length ∧ ys.length = u65.items.length) ∧ rr 17 = .int .i64 (q : Int) ∧ Agr [2, 7, 9, 11, 12, 13, 14, 15, 16] rr rq ∧ St wr R92 (Ow 2 (encI .i64) 1 v68 ys :: Ow 2 (encI .i64) 1 v77 (offer n1 mo m1 u65.first u65.items).1 :: Ow 2 (encI .i64) 1 v92 (offer n1 mo m1 u65.first u65.items).1 :: blk bh25 (.cells (#[.int .i64 (offer n1 mo m1 u65.first u65.items).2.2.1, .int .i64 mo, .map (some bm25)]) 51 (0, 0)) :: Mp Try.prog 2 bm25 (mE iE (offer n1 mo m1 u65.first u65.items).2.2.2) :: blk bh31 (.cells (#[.int .i64 (offer n1 mo m1 u65.first u65.items).2.2.1, .int .i64 mo, vr92]) 44 (0, 0)) :: L)) ⟨0, _, rfl, (by exact ⟨by omega, rfl⟩), rfl, ⟨rfl, rfl, rfl, rfl, rfl, rfl, rfl, rfl, rfl, trivial⟩, ((((((hS92.at_ (i := 1) rfl).at_ (i := 5) rfl).at_ (i := 5) rfl).at_ (i := 3) rfl).at_ (i := 5) rfl).at_ (i := 5) rfl)⟩ ?_
                        rintro mm rr w1002 ⟨q, ys, hm1002, ⟨hq, hyl⟩, hr1002_17, hA1002, hS1002⟩
                        obtain ⟨rr, rfl⟩ := agrBack hA1002
                        clear hA1002
                        obtain ⟨rr, rfl⟩ := back1 (r := rr) hr1002_17
                        clear hr1002_17
                        obtain ⟨ay, cy, rfl⟩ := hS1002.rowLen
                        refine WR.seq ?_
                        refine WR.seq ?_
                        refine WR.region rfl ?_
                        refine S.moveT rfl ?_
                        refine S.moveT rfl ?_
                        refine S.lenSl Try.underlying32 rfl rfl ?_
                        refine S.lss rfl rfl rfl ?_
                        refine WS.done ?_
                        refine WR.condD rfl (fun c98 => ?_) (fun c98 => ?_)
                        ·
                          skip
                          refine WR.skip ?_
                          refine WR.seq ?_
                          refine WR.block ?_
                          refine WR.region rfl ?_
                          refine S.moveT rfl ?_
                          refine S.moveT rfl ?_
                          refine S.indexOw (i := 0) hS1002 rfl Try.underlying32 ti2 rfl rfl (by omega) rfl ?_
                          refine S.loadOw (i := 0) hS1002 rfl (fun _ _ => rfl) Try.underlying2 rfl rfl (List.getElem?_eq_getElem (by omega)) rfl rfl ?_
                          first
                            | refine S.addN rfl rfl rfl (by omega) ?_
                            | refine S.add rfl rfl rfl ?_
                          refine S.indexOw (i := 0) hS1002 rfl Try.underlying32 ti2 rfl rfl (by omega) rfl ?_
                          refine S.storeOw (i := 0) hS1002 rfl (fun _ _ => rfl) ti2 rfl (by omega) rfl rfl rfl rfl rfl ?_
                          intro w2020 hS2020; clear hS1002
                          refine WS.done ?_
                          refine WR.region rfl ?_
                          refine S.moveT rfl ?_
                          first
                            | refine S.addN rfl rfl rfl (by omega) ?_
                            | refine S.add rfl rfl rfl ?_
                          refine S.assignT rfl ?_
                          refine WS.done ?_
                          exact ⟨_, (by rw [List.length_set]; omega), ⟨q + 1, _, rfl, (by exact ⟨by rw [List.length_set]; omega, by rw [List.length_set]; exact hyl⟩), rfl, ⟨rfl, rfl, rfl, rfl, rfl, rfl, rfl, rfl, rfl, trivial⟩, hS2020⟩⟩
                        ·
                          skip
                          refine WR.exit ?_
                          refine WR.seq ?_
                          obtain ⟨RA, hRA, hroA, hSA⟩ := (hS1002.at_ (i := 1) rfl).freeze (fun _ _ => rfl)
                          obtain ⟨RB, hRB, hroB, hSB⟩ := (hSA.at_ (i := 1) rfl).freeze (fun _ _ => rfl)
                          replace hroA := hroA.mono hRB
                          replace hro92 := hro92.mono (hRA.trans hRB)
                          refine WR.region rfl ?_
                          refine S.moveT rfl ?_
                          refine S.moveT rfl ?_
                          refine S.neq rfl rfl rfl ?_
                          refine S.isFD (d := 109) rfl (by simp) ?_
                          refine S.moveT rfl ?_
                          refine S.moveT rfl ?_
                          refine S.moveT rfl ?_
                          refine S.call ent14 rfl (u_same hSB (by exact hroA) (by exact hroB) (by have := (hI1.offer (first := u65.first) (xs := u65.items) (by omega) hEu.2.2.2.1).2.2.1; omega)) rfl ?_
                          rintro _ w113 ⟨rfl, hS113⟩
                          clear hSB
                          refine S.isTD (d := 113) rfl (by rfl) ?_
                          refine S.not rfl rfl ?_
                          refine S.pickF rfl rfl ?_
                          refine WS.done ?_
                          refine WR.condF rfl ?_
                          refine WR.skip ?_
                          exact ⟨_, _, _, _, (by first | exact ⟨(hI1.offer (by omega) hEu.2.2.2.1).1, (by repeat (first | assumption | exact Kn.le.refl _ | refine Kn.le.trans ?_ (by assumption))), hro92⟩ | exact ⟨hI1.nil, (by repeat (first | assumption | exact Kn.le.refl _ | refine Kn.le.trans ?_ (by assumption))), Ro.nil⟩ | exact ⟨hI1, (by repeat (first | assumption | exact Kn.le.refl _ | refine Kn.le.trans ?_ (by assumption))), hroj⟩), ⟨rfl, rfl, rfl, rfl, trivial⟩, hS113.drop⟩
                    ·
                      skip
                      refine S.loadRoF hS6002 hc89 rfl Try.underlying32 rfl rfl rfl ?_
                      refine WS.done ⟨fun _ => hS6002, ?_⟩
                      replace hC := hS6002
                      refine WA.one (fuel := 7) 4 rfl (by kernel_rfl) rfl ?_
                      refine S.fieldElt Try.underlying34 rfl ti2 rfl rfl rfl ?_
                      refine WS.done ⟨fun _ => hS6002, ?_⟩
                      replace hC := hS6002
                      refine WA.one (fuel := 6) 5 rfl (by kernel_rfl) rfl ?_
                      refine S.loadRoF hS6002 hc84 rfl Try.underlying2 rfl rfl rfl ?_
                      refine WS.done ⟨fun _ => hS6002, ?_⟩
                      replace hC := hS6002
                      refine WA.one (fuel := 5) 11 rfl (by kernel_rfl) rfl ?_
                      refine S.call ent13 rfl (r_offer (((((hS6002.at_ (i := 3) rfl).at_ (i := 3) rfl).at_ (i := 3) rfl).at_ (i := 3) rfl).at_ (i := 4) rfl) (by exact hroj) (by exact hI1) (by exact hEu.2.2.1) (by exact hEu.1.mono hRb) (by exact hEu.2.2.2.1) (by omega)) rfl ?_
                      rintro _ w92 ⟨v92, R92, vr92, rfl, hR92, hro92, hS92⟩
                      clear hS6002
                      replace hrc := hrc.mono hR92
                      replace hroj := hroj.mono hR92
                      refine WS.done ⟨fun h => absurd h (by decide), ?_⟩
                      refine WA.one (fuel := 4) 12 rfl (by kernel_rfl) rfl ?_
                      refine S.moveT rfl ?_
                      refine WS.done ⟨fun h => absurd h (by decide), ?_⟩
                      refine WA.takeP (fuel := 3) 13 rfl (by kernel_rfl) (by kernel_rfl) (by kernel_rfl) rfl rfl ?_
                      refine Q.extract rfl rfl rfl ?_
                      refine WQ.done ?_
                      refine WA.takeP (fuel := 2) 14 rfl (by kernel_rfl) (by kernel_rfl) (by kernel_rfl) rfl rfl ?_
                      refine Q.extract rfl rfl rfl ?_
                      refine WQ.done ?_
                      refine WA.one (fuel := 1) 15 rfl (by kernel_rfl) rfl ?_
                      refine S.assignT rfl ?_
                      refine WS.done ⟨fun h => absurd h (by decide), ?_⟩
                      refine WA.one (fuel := 0) 16 rfl (by kernel_rfl) rfl ?_
                      refine S.assignT rfl ?_
                      refine WS.done ⟨fun h => absurd h (by decide), ?_⟩
                      refine WA.done (by kernel_rfl) ?_
                      clear hC
                      refine WR.seq ?_
                      refine WR.seq ?_
                      refine WR.region rfl ?_
                      refine S.assignC rfl ?_
                      refine WS.done ?_
                      refine WR.block ?_
                      refine WR.loopE (fun rq mm rr wr => ∃ (q : Nat) (ys : List Int), mm = ys.length - q ∧ (q ≤ ys.length ∧ ys.length = u65.items.length) ∧ rr 17 = .int .i64 (q : Int) ∧ Agr [2, 7, 9, 11, 12, 13, 14, 15, 16] rr rq ∧ St wr R92 (Ow 2 (encI .i64) 1 v68 ys :: Ow 2 (encI .i64) 1 v77 (offer n1 mo m1 u65.first u65.items).1 :: Ow 2 (encI .i64) 1 v92 (offer n1 mo m1 u65.first u65.items).1 :: blk bh25 (.cells (#[.int .i64 (offer n1 mo m1 u65.first u65.items).2.2.1, .int .i64 mo, .map (some bm25)]) 51 (0, 0)) :: Mp Try.prog 2 bm25 (mE iE (offer n1 mo m1 u65.first u65.items).2.2.2) :: blk bh31 (.cells (#[.int .i64 (offer n1 mo m1 u65.first u65.items).2.2.1, .int .i64 mo, vr92]) 44 (0, 0)) :: L)) ⟨0, _, rfl, (by exact ⟨by omega, rfl⟩), rfl, ⟨rfl, rfl, rfl, rfl, rfl, rfl, rfl, rfl, rfl, trivial⟩, ((((((hS92.at_ (i := 1) rfl).at_ (i := 5) rfl).at_ (i := 5) rfl).at_ (i := 3) rfl).at_ (i := 5) rfl).at_ (i := 5) rfl)⟩ ?_
                      rintro mm rr w1002 ⟨q, ys, hm1002, ⟨hq, hyl⟩, hr1002_17, hA1002, hS1002⟩
                      obtain ⟨rr, rfl⟩ := agrBack hA1002
                      clear hA1002
                      obtain ⟨rr, rfl⟩ := back1 (r := rr) hr1002_17
                      clear hr1002_17
                      obtain ⟨ay, cy, rfl⟩ := hS1002.rowLen
                      refine WR.seq ?_
                      refine WR.seq ?_
                      refine WR.region rfl ?_
                      refine S.moveT rfl ?_
                      refine S.moveT rfl ?_
                      refine S.lenSl Try.underlying32 rfl rfl ?_
                      refine S.lss rfl rfl rfl ?_
                      refine WS.done ?_
                      refine WR.condD rfl (fun c98 => ?_) (fun c98 => ?_)
                      ·
                        skip
                        refine WR.skip ?_
                        refine WR.seq ?_
                        refine WR.block ?_
                        refine WR.region rfl ?_
                        refine S.moveT rfl ?_
                        refine S.moveT rfl ?_
                        refine S.indexOw (i := 0) hS1002 rfl Try.underlying32 ti2 rfl rfl (by omega) rfl ?_
                        refine S.loadOw (i := 0) hS1002 rfl (fun _ _ => rfl) Try.underlying2 rfl rfl (List.getElem?_eq_getElem (by omega)) rfl rfl ?_
                        first
                          | refine S.addN rfl rfl rfl (by omega) ?_
                          | refine S.add rfl rfl rfl ?_
                        refine S.indexOw (i := 0) hS1002 rfl Try.underlying32 ti2 rfl rfl (by omega) rfl ?_
                        refine S.storeOw (i := 0) hS1002 rfl (fun _ _ => rfl) ti2 rfl (by omega) rfl rfl rfl rfl rfl ?_
                        intro w2021 hS2021; clear hS1002
                        refine WS.done ?_
                        refine WR.region rfl ?_
                        refine S.moveT rfl ?_
                        first
                          | refine S.addN rfl rfl rfl (by omega) ?_
                          | refine S.add rfl rfl rfl ?_
                        refine S.assignT rfl ?_
                        refine WS.done ?_
                        exact ⟨_, (by rw [List.length_set]; omega), ⟨q + 1, _, rfl, (by exact ⟨by rw [List.length_set]; omega, by rw [List.length_set]; exact hyl⟩), rfl, ⟨rfl, rfl, rfl, rfl, rfl, rfl, rfl, rfl, rfl, trivial⟩, hS2021⟩⟩
                      ·
                        skip
                        refine WR.exit ?_
                        refine WR.seq ?_
                        obtain ⟨RA, hRA, hroA, hSA⟩ := (hS1002.at_ (i := 1) rfl).freeze (fun _ _ => rfl)
                        obtain ⟨RB, hRB, hroB, hSB⟩ := (hSA.at_ (i := 1) rfl).freeze (fun _ _ => rfl)
                        replace hroA := hroA.mono hRB
                        replace hro92 := hro92.mono (hRA.trans hRB)
                        refine WR.region rfl ?_
                        refine S.moveT rfl ?_
                        refine S.moveT rfl ?_
                        refine S.neq rfl rfl rfl ?_
                        refine S.isFD (d := 109) rfl (by simp) ?_
                        refine S.moveT rfl ?_
                        refine S.moveT rfl ?_
                        refine S.moveT rfl ?_
                        refine S.call ent14 rfl (u_same hSB (by exact hroA) (by exact hroB) (by have := (hI1.offer (first := u65.first) (xs := u65.items) (by omega) hEu.2.2.2.1).2.2.1; omega)) rfl ?_
                        rintro _ w113 ⟨rfl, hS113⟩
                        clear hSB
                        refine S.isTD (d := 113) rfl (by rfl) ?_
                        refine S.not rfl rfl ?_
                        refine S.pickF rfl rfl ?_
                        refine WS.done ?_
                        refine WR.condF rfl ?_
                        refine WR.skip ?_
                        exact ⟨_, _, _, _, (by first | exact ⟨(hI1.offer (by omega) hEu.2.2.2.1).1, (by repeat (first | assumption | exact Kn.le.refl _ | refine Kn.le.trans ?_ (by assumption))), hro92⟩ | exact ⟨hI1.nil, (by repeat (first | assumption | exact Kn.le.refl _ | refine Kn.le.trans ?_ (by assumption))), Ro.nil⟩ | exact ⟨hI1, (by repeat (first | assumption | exact Kn.le.refl _ | refine Kn.le.trans ?_ (by assumption))), hroj⟩), ⟨rfl, rfl, rfl, rfl, trivial⟩, hS113.drop⟩
                  ·
                    skip
                    refine S.loadRoF hS6002 hc89 rfl Try.underlying32 rfl rfl rfl ?_
                    refine WS.done ⟨fun _ => hS6002, ?_⟩
                    replace hC := hS6002
                    refine WA.one (fuel := 8) 3 rfl (by kernel_rfl) rfl ?_
                    refine S.indexRo hrc Try.underlying22 ti34 rfl rfl (by omega) rfl ?_
                    intro ad84 u84 hu84 hl84 hc84
                    obtain rfl : u65 = u84 := Option.some.inj (hu65.symm.trans hu84)
                    refine WS.done ⟨fun _ => hS6002, ?_⟩
                    replace hC := hS6002
                    refine WA.one (fuel := 7) 4 rfl (by kernel_rfl) rfl ?_
                    refine S.fieldElt Try.underlying34 rfl ti2 rfl rfl rfl ?_
                    refine WS.done ⟨fun _ => hS6002, ?_⟩
                    replace hC := hS6002
                    refine WA.one (fuel := 6) 5 rfl (by kernel_rfl) rfl ?_
                    refine S.loadRoF hS6002 hc84 rfl Try.underlying2 rfl rfl rfl ?_
                    refine WS.done ⟨fun _ => hS6002, ?_⟩
                    replace hC := hS6002
                    refine WA.one (fuel := 5) 11 rfl (by kernel_rfl) rfl ?_
                    refine S.call ent13 rfl (r_offer (((((hS6002.at_ (i := 3) rfl).at_ (i := 3) rfl).at_ (i := 3) rfl).at_ (i := 3) rfl).at_ (i := 4) rfl) (by exact hroj) (by exact hI1) (by exact hEu.2.2.1) (by exact hEu.1.mono hRb) (by exact hEu.2.2.2.1) (by omega)) rfl ?_
                    rintro _ w92 ⟨v92, R92, vr92, rfl, hR92, hro92, hS92⟩
                    clear hS6002
                    replace hrc := hrc.mono hR92
                    replace hroj := hroj.mono hR92
                    refine WS.done ⟨fun h => absurd h (by decide), ?_⟩
                    refine WA.one (fuel := 4) 12 rfl (by kernel_rfl) rfl ?_
                    refine S.moveT rfl ?_
                    refine WS.done ⟨fun h => absurd h (by decide), ?_⟩
                    refine WA.takeP (fuel := 3) 13 rfl (by kernel_rfl) (by kernel_rfl) (by kernel_rfl) rfl rfl ?_
                    refine Q.extract rfl rfl rfl ?_
                    refine WQ.done ?_
                    refine WA.takeP (fuel := 2) 14 rfl (by kernel_rfl) (by kernel_rfl) (by kernel_rfl) rfl rfl ?_
                    refine Q.extract rfl rfl rfl ?_
                    refine WQ.done ?_
                    refine WA.one (fuel := 1) 15 rfl (by kernel_rfl) rfl ?_
                    refine S.assignT rfl ?_
                    refine WS.done ⟨fun h => absurd h (by decide), ?_⟩
                    refine WA.one (fuel := 0) 16 rfl (by kernel_rfl) rfl ?_
                    refine S.assignT rfl ?_
                    refine WS.done ⟨fun h => absurd h (by decide), ?_⟩
                    refine WA.done (by kernel_rfl) ?_
                    clear hC
                    refine WR.seq ?_
                    refine WR.seq ?_
                    refine WR.region rfl ?_
                    refine S.assignC rfl ?_
                    refine WS.done ?_
                    refine WR.block ?_
                    refine WR.loopE (fun rq mm rr wr => ∃ (q : Nat) (ys : List Int), mm = ys.length - q ∧ (q ≤ ys.length ∧ ys.length = u65.items.length) ∧ rr 17 = .int .i64 (q : Int) ∧ Agr [2, 7, 9, 11, 12, 13, 14, 15, 16] rr rq ∧ St wr R92 (Ow 2 (encI .i64) 1 v68 ys :: Ow 2 (encI .i64) 1 v77 (offer n1 mo m1 u65.first u65.items).1 :: Ow 2 (encI .i64) 1 v92 (offer n1 mo m1 u65.first u65.items).1 :: blk bh25 (.cells (#[.int .i64 (offer n1 mo m1 u65.first u65.items).2.2.1, .int .i64 mo, .map (some bm25)]) 51 (0, 0)) :: Mp Try.prog 2 bm25 (mE iE (offer n1 mo m1 u65.first u65.items).2.2.2) :: blk bh31 (.cells (#[.int .i64 (offer n1 mo m1 u65.first u65.items).2.2.1, .int .i64 mo, vr92]) 44 (0, 0)) :: L)) ⟨0, _, rfl, (by exact ⟨by omega, rfl⟩), rfl, ⟨rfl, rfl, rfl, rfl, rfl, rfl, rfl, rfl, rfl, trivial⟩, ((((((hS92.at_ (i := 1) rfl).at_ (i := 5) rfl).at_ (i := 5) rfl).at_ (i := 3) rfl).at_ (i := 5) rfl).at_ (i := 5) rfl)⟩ ?_
                    rintro mm rr w1002 ⟨q, ys, hm1002, ⟨hq, hyl⟩, hr1002_17, hA1002, hS1002⟩
                    obtain ⟨rr, rfl⟩ := agrBack hA1002
                    clear hA1002
                    obtain ⟨rr, rfl⟩ := back1 (r := rr) hr1002_17
                    clear hr1002_17
                    obtain ⟨ay, cy, rfl⟩ := hS1002.rowLen
                    refine WR.seq ?_
                    refine WR.seq ?_
                    refine WR.region rfl ?_
                    refine S.moveT rfl ?_
                    refine S.moveT rfl ?_
                    refine S.lenSl Try.underlying32 rfl rfl ?_
                    refine S.lss rfl rfl rfl ?_
                    refine WS.done ?_
                    refine WR.condD rfl (fun c98 => ?_) (fun c98 => ?_)
                    ·
                      skip
                      refine WR.skip ?_
                      refine WR.seq ?_
                      refine WR.block ?_
                      refine WR.region rfl ?_
                      refine S.moveT rfl ?_
                      refine S.moveT rfl ?_
                      refine S.indexOw (i := 0) hS1002 rfl Try.underlying32 ti2 rfl rfl (by omega) rfl ?_
                      refine S.loadOw (i := 0) hS1002 rfl (fun _ _ => rfl) Try.underlying2 rfl rfl (List.getElem?_eq_getElem (by omega)) rfl rfl ?_
                      first
                        | refine S.addN rfl rfl rfl (by omega) ?_
                        | refine S.add rfl rfl rfl ?_
                      refine S.indexOw (i := 0) hS1002 rfl Try.underlying32 ti2 rfl rfl (by omega) rfl ?_
                      refine S.storeOw (i := 0) hS1002 rfl (fun _ _ => rfl) ti2 rfl (by omega) rfl rfl rfl rfl rfl ?_
                      intro w2022 hS2022; clear hS1002
                      refine WS.done ?_
                      refine WR.region rfl ?_
                      refine S.moveT rfl ?_
                      first
                        | refine S.addN rfl rfl rfl (by omega) ?_
                        | refine S.add rfl rfl rfl ?_
                      refine S.assignT rfl ?_
                      refine WS.done ?_
                      exact ⟨_, (by rw [List.length_set]; omega), ⟨q + 1, _, rfl, (by exact ⟨by rw [List.length_set]; omega, by rw [List.length_set]; exact hyl⟩), rfl, ⟨rfl, rfl, rfl, rfl, rfl, rfl, rfl, rfl, rfl, trivial⟩, hS2022⟩⟩
                    ·
                      skip
                      refine WR.exit ?_
                      refine WR.seq ?_
                      obtain ⟨RA, hRA, hroA, hSA⟩ := (hS1002.at_ (i := 1) rfl).freeze (fun _ _ => rfl)
                      obtain ⟨RB, hRB, hroB, hSB⟩ := (hSA.at_ (i := 1) rfl).freeze (fun _ _ => rfl)
                      replace hroA := hroA.mono hRB
                      replace hro92 := hro92.mono (hRA.trans hRB)
                      refine WR.region rfl ?_
                      refine S.moveT rfl ?_
                      refine S.moveT rfl ?_
                      refine S.neq rfl rfl rfl ?_
                      refine S.isFD (d := 109) rfl (by simp) ?_
                      refine S.moveT rfl ?_
                      refine S.moveT rfl ?_
                      refine S.moveT rfl ?_
                      refine S.call ent14 rfl (u_same hSB (by exact hroA) (by exact hroB) (by have := (hI1.offer (first := u65.first) (xs := u65.items) (by omega) hEu.2.2.2.1).2.2.1; omega)) rfl ?_
                      rintro _ w113 ⟨rfl, hS113⟩
                      clear hSB
                      refine S.isTD (d := 113) rfl (by rfl) ?_
                      refine S.not rfl rfl ?_
                      refine S.pickF rfl rfl ?_
                      refine WS.done ?_
                      refine WR.condF rfl ?_
                      refine WR.skip ?_
                      exact ⟨_, _, _, _, (by first | exact ⟨(hI1.offer (by omega) hEu.2.2.2.1).1, (by repeat (first | assumption | exact Kn.le.refl _ | refine Kn.le.trans ?_ (by assumption))), hro92⟩ | exact ⟨hI1.nil, (by repeat (first | assumption | exact Kn.le.refl _ | refine Kn.le.trans ?_ (by assumption))), Ro.nil⟩ | exact ⟨hI1, (by repeat (first | assumption | exact Kn.le.refl _ | refine Kn.le.trans ?_ (by assumption))), hroj⟩), ⟨rfl, rfl, rfl, rfl, trivial⟩, hS113.drop⟩
            ·
              skip
              refine WR.seq ?_
              refine WR.region rfl ?_
              refine S.eql rfl rfl rfl ?_
              refine S.assignT rfl ?_
              refine WS.done ?_
              refine WR.condD rfl (fun c116 => ?_) (fun c116 => ?_)
              ·
                skip
                refine WR.seq ?_
                refine WR.region rfl ?_
                refine S.moveT rfl ?_
                refine S.call ent15 rfl (h_drain hS1001 (by exact hI1)) rfl ?_
                rintro v119 w119 hS119
                clear hS1001
                obtain ⟨R119, hR119, hro119, hSf119⟩ := hS119.freeze (fun _ _ => rfl)
                obtain ⟨fa119, fc119, rfl, hfl119⟩ := hro119.len
                replace hrc := hrc.mono hR119
                replace hroj := hroj.mono hR119
                refine S.moveT rfl ?_
                refine S.call ent16 rfl (r_drain (((hSf119.at_ (i := 1) rfl).at_ (i := 1) rfl).at_ (i := 2) rfl) (by exact hroj) (by have := hI1.len2; omega)) rfl ?_
                rintro v121 w121 hS121
                clear hSf119
                obtain ⟨R121, hR121, hro121, hSf121⟩ := hS121.freeze (fun _ _ => rfl)
                obtain ⟨fa121, fc121, rfl, hfl121⟩ := hro121.len
                replace hrc := hrc.mono hR121
                replace hroj := hroj.mono hR121
                replace hro119 := hro119.mono hR121
                refine S.call ent14 rfl (u_same hSf121 (by exact hro119) (by exact hro121) (by rw [List.length_map]; have := hI1.len2; omega)) rfl ?_
                rintro _ w122 ⟨rfl, hS122⟩
                clear hSf121
                refine S.isTD (d := 122) rfl (by rfl) ?_
                refine S.not rfl rfl ?_
                refine WS.done ?_
                refine WR.condF rfl ?_
                refine WR.skip ?_
                exact ⟨_, _, _, _, (by first | exact ⟨(hI1.offer (by omega) hEu.2.2.2.1).1, (by repeat (first | assumption | exact Kn.le.refl _ | refine Kn.le.trans ?_ (by assumption))), hro92⟩ | exact ⟨hI1.nil, (by repeat (first | assumption | exact Kn.le.refl _ | refine Kn.le.trans ?_ (by assumption))), Ro.nil⟩ | exact ⟨hI1, (by repeat (first | assumption | exact Kn.le.refl _ | refine Kn.le.trans ?_ (by assumption))), hroj⟩), ⟨rfl, rfl, rfl, rfl, trivial⟩, (((hS122.at_ (i := 0) rfl).at_ (i := 2) rfl).at_ (i := 2) rfl)⟩
              ·
                skip
                refine WR.skip ?_
                exact ⟨_, _, _, _, (by first | exact ⟨(hI1.offer (by omega) hEu.2.2.2.1).1, (by repeat (first | assumption | exact Kn.le.refl _ | refine Kn.le.trans ?_ (by assumption))), hro92⟩ | exact ⟨hI1.nil, (by repeat (first | assumption | exact Kn.le.refl _ | refine Kn.le.trans ?_ (by assumption))), Ro.nil⟩ | exact ⟨hI1, (by repeat (first | assumption | exact Kn.le.refl _ | refine Kn.le.trans ?_ (by assumption))), hroj⟩), ⟨rfl, rfl, rfl, rfl, trivial⟩, hS1001⟩
          ·
            skip
            rintro rr w8001 ⟨n2, m2, R2, vr2, ⟨hI2, hR2, hrok⟩, hA8001, hS8001⟩
            obtain ⟨rr, rfl⟩ := agrBack hA8001
            clear hA8001
            clear hS1001
            obtain ⟨aj2, cj2, rfl, hlj2⟩ := hrok.len
            have hlm2 := hI2.len2
            refine WR.seq ?_
            refine WR.regionW (fun j => false) 15 rfl mixed hS8001 ?_
            intro w6023 hS6023; clear hS8001; have hC := hS6023
            refine WA.take (fuel := 14) 0 rfl (by kernel_rfl) (by kernel_rfl) (by kernel_rfl) (by kernel_rfl) rfl rfl hC ?_
            refine Q.moveT rfl ?_
            refine WQ.done ?_
            refine WA.take (fuel := 13) 2 rfl (by kernel_rfl) (by kernel_rfl) (by kernel_rfl) (by kernel_rfl) rfl rfl hC ?_
            refine Q.moveT rfl ?_
            refine WQ.done ?_
            refine WA.take (fuel := 12) 3 rfl (by kernel_rfl) (by kernel_rfl) (by kernel_rfl) (by kernel_rfl) rfl rfl hC ?_
            refine Q.nilCheck rfl rfl ?_
            refine WQ.done ?_
            refine WA.take (fuel := 11) 4 rfl (by kernel_rfl) (by kernel_rfl) (by kernel_rfl) (by kernel_rfl) rfl rfl hC ?_
            refine Q.fieldB Try.underlying44 rfl ti2 rfl rfl rfl rfl ?_
            refine WQ.done ?_
            refine WA.take (fuel := 10) 5 rfl (by kernel_rfl) (by kernel_rfl) (by kernel_rfl) (by kernel_rfl) rfl rfl hC ?_
            refine Q.loadB (i := 2) rfl Try.underlying2 rfl rfl rfl rfl ?_
            refine WQ.done ?_
            refine WA.one (fuel := 9) 1 rfl (by kernel_rfl) rfl ?_
            refine S.call ent17 rfl (h_next hS6023 ) rfl ?_
            rintro _ w125 ⟨rfl, hS125⟩
            clear hS6023
            refine WS.done ⟨fun _ => hS125, ?_⟩
            replace hC := hS125
            refine WA.take (fuel := 8) 6 rfl (by kernel_rfl) (by kernel_rfl) (by kernel_rfl) (by kernel_rfl) rfl rfl hC ?_
            refine Q.neq rfl rfl rfl ?_
            refine Q.isFD (d := 130) rfl (by simp) ?_
            refine WQ.done ?_
            refine WA.take (fuel := 7) 7 rfl (by kernel_rfl) (by kernel_rfl) (by kernel_rfl) (by kernel_rfl) rfl rfl hC ?_
            refine Q.moveT rfl ?_
            refine WQ.done ?_
            refine WA.take (fuel := 6) 8 rfl (by kernel_rfl) (by kernel_rfl) (by kernel_rfl) (by kernel_rfl) rfl rfl hC ?_
            refine Q.moveT rfl ?_
            refine WQ.done ?_
            refine WA.take (fuel := 5) 10 rfl (by kernel_rfl) (by kernel_rfl) (by kernel_rfl) (by kernel_rfl) rfl rfl hC ?_
            refine Q.moveT rfl ?_
            refine WQ.done ?_
            refine WA.one (fuel := 4) 9 rfl (by kernel_rfl) rfl ?_
            refine S.call ent18 rfl (h_waiting hS125 (by omega)) rfl ?_
            rintro v133 w133 hS133
            clear hS125
            obtain ⟨R133, hR133, hro133, hSf133⟩ := hS133.freeze (fun _ _ => rfl)
            obtain ⟨fa133, fc133, rfl, hfl133⟩ := hro133.len
            replace hrok := hrok.mono hR133
            refine WS.done ⟨fun _ => (hSf133.weak hR133), ?_⟩
            replace hC := (hSf133.weak hR133)
            refine WA.one (fuel := 3) 11 rfl (by kernel_rfl) rfl ?_
            refine S.call ent19 rfl (r_waiting (((hSf133.at_ (i := 1) rfl).at_ (i := 1) rfl).at_ (i := 2) rfl) (by exact hrok) (by omega)) rfl ?_
            rintro v135 w135 hS135
            clear hSf133
            obtain ⟨R135, hR135, hro135, hSf135⟩ := hS135.freeze (fun _ _ => rfl)
            obtain ⟨fa135, fc135, rfl, hfl135⟩ := hro135.len
            replace hrok := hrok.mono hR135
            replace hro133 := hro133.mono hR135
            refine WS.done ⟨fun _ => (((((hSf135.at_ (i := 0) rfl).at_ (i := 2) rfl).at_ (i := 2) rfl).weak hR135).weak hR133), ?_⟩
            replace hC := (((((hSf135.at_ (i := 0) rfl).at_ (i := 2) rfl).at_ (i := 2) rfl).weak hR135).weak hR133)
            refine WA.one (fuel := 2) 12 rfl (by kernel_rfl) rfl ?_
            refine S.call ent14 rfl (u_same hSf135 (by exact hro133) (by exact hro135) (by rw [List.length_map]; omega)) rfl ?_
            rintro _ w136 ⟨rfl, hS136⟩
            clear hSf135
            refine S.isTD (d := 136) rfl (by rfl) ?_
            refine WS.done ⟨fun _ => (((((hS136.at_ (i := 0) rfl).at_ (i := 2) rfl).at_ (i := 2) rfl).weak hR135).weak hR133), ?_⟩
            replace hC := (((((hS136.at_ (i := 0) rfl).at_ (i := 2) rfl).at_ (i := 2) rfl).weak hR135).weak hR133)
            refine WA.take (fuel := 1) 13 rfl (by kernel_rfl) (by kernel_rfl) (by kernel_rfl) (by kernel_rfl) rfl rfl hC ?_
            refine Q.not rfl rfl ?_
            refine WQ.done ?_
            refine WA.take (fuel := 0) 14 rfl (by kernel_rfl) (by kernel_rfl) (by kernel_rfl) (by kernel_rfl) rfl rfl hC ?_
            refine Q.pickF rfl rfl ?_
            refine WQ.done ?_
            refine WA.done (by kernel_rfl) ?_
            clear hC
            refine WR.condF rfl ?_
            refine WR.skip ?_
            refine WR.region rfl ?_
            refine S.moveT rfl ?_
            first
              | refine S.addN rfl rfl rfl (by omega) ?_
              | refine S.add rfl rfl rfl ?_
            refine S.assignT rfl ?_
            refine WS.done ?_
            exact ⟨_, (by omega), ⟨i + 1, _, _, _, _, rfl, (by exact ⟨by omega, hI2, (by repeat (first | assumption | exact Kn.le.refl _ | refine Kn.le.trans ?_ (by assumption))), hrok⟩), rfl, ⟨rfl, rfl, rfl, trivial⟩, (((hS136.at_ (i := 0) rfl).at_ (i := 2) rfl).at_ (i := 2) rfl)⟩⟩
        ·
          skip
          refine WR.exit ?_
          refine WR.seq ?_
          refine WR.region rfl ?_
          refine S.assignC rfl ?_
          refine WS.done ?_
          refine WR.ret (ret1 rfl rfl ?_)
          first | exact ⟨rfl, hS1001⟩ | exact ⟨rfl, hS1001.drop.drop.drop.weak hR1⟩


end Go.Proofs.Ytcbfmbcmokafpaa.B

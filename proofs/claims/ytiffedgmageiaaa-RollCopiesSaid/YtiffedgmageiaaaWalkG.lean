import Derived.Test.YtiffedgmageiaaaWalkE
namespace Go.Proofs.Ytiffedgmageiaaa.B
open Go.Proofs Go.RowKit
set_option linter.unusedVariables false
set_option linter.unusedSimpArgs false
set_option maxRecDepth 100000 in
set_option maxHeartbeats 4000000 in
theorem law_RollCopies {w : World} {R : Kn} {L : List HP}  (hS : St w R (L)) {mo : Int} {v1 : Value} {xs : List Five} (h1 : Ro R fiveE 5 v1 xs) (hok : ∀ x ∈ xs, x.ok) (hlx : xs.length ≤ 140737488355328) {v2 : Value} {ys : List Five} (h2 : Ro R fiveE 5 v2 ys) (hok2 : ∀ x ∈ ys, x.ok) (hly : ys.length ≤ 140737488355328) :
    Fn Try.prog 5 #[.int .i64 mo, v1, v2] w (fun v w' => v = .bool true ∧ St w' R L) := by
  obtain ⟨a1, c1, rfl, hl1⟩ := h1.len
  obtain ⟨a2, c2, rfl, hl2⟩ := h2.len
  refine Fn.introG (n := 151) Try.func5 rfl rfl rfl ?_
  refine WG.seq ?_
  refine WG.region rfl ?_
  refine S.assignC rfl ?_
  refine WS.done ?_
  refine WG.seq ?_
  refine WG.seq ?_
  refine WG.region rfl ?_
  refine S.call ent6 rfl (l15_alive hS ) rfl ?_
  rintro _ w19 ⟨rfl, hS19⟩
  clear hS
  refine S.not rfl rfl ?_
  refine WS.done ?_
  refine WG.condF rfl ?_
  refine WG.skip ?_
  refine WG.seq ?_
  refine WG.seq ?_
  refine WG.region rfl ?_
  refine S.moveT rfl ?_
  refine S.lenSl Try.underlying22 rfl rfl ?_
  refine S.gtr rfl rfl rfl ?_
  refine S.moveT rfl ?_
  refine S.splitD (d := 24) rfl (fun c24 => ?_) (fun c24 => ?_)
  ·
    skip
    refine S.off rfl ?_
    refine S.off rfl ?_
    refine S.off rfl ?_
    refine S.pickTC rfl rfl ?_
    refine WS.done ?_
    refine WG.condT rfl ?_
    refine WG.seq ?_
    refine WG.region rfl ?_
    refine S.assignC rfl ?_
    refine WS.done ?_
    refine WG.ret (qm0 (ret1 rfl rfl ?_))
    exact ⟨rfl, hS19⟩
  ·
    skip
    refine S.moveT rfl ?_
    refine S.lenSl Try.underlying22 rfl rfl ?_
    refine S.gtr rfl rfl rfl ?_
    refine S.pickF rfl rfl ?_
    refine WS.done ?_
    refine WG.condD rfl (fun c28 => ?_) (fun c28 => ?_)
    ·
      skip
      refine WG.seq ?_
      refine WG.region rfl ?_
      refine S.assignC rfl ?_
      refine WS.done ?_
      refine WG.ret (qm0 (ret1 rfl rfl ?_))
      exact ⟨rfl, hS19⟩
    ·
      skip
      refine WG.skip ?_
      refine WG.seq ?_
      refine WG.region rfl ?_
      refine S.moveT rfl ?_
      refine S.call ent7 rfl (r_new hS19 ) rfl ?_
      rintro v31 w31 hcs31
      clear hS19
      rcases hcs31 with ⟨hN31, rfl, hS31⟩ | ⟨hN31, bh31, bm31, rfl, hS31⟩
      ·
        skip
        refine S.moveT rfl ?_
        refine S.extract rfl rfl rfl ?_
        refine S.extract rfl rfl rfl ?_
        refine S.assignT rfl ?_
        refine S.assignT rfl ?_
        refine WS.done ?_
        refine WG.seq ?_
        refine WG.region rfl ?_
        refine S.moveT rfl ?_
        refine S.call ent8 rfl (s_new hS31 ) rfl ?_
        rintro v36 w36 hcs36
        clear hS31
        rcases hcs36 with ⟨hN36, rfl, hS36⟩ | ⟨hN36, bs36, rfl, hS36⟩
        ·
          skip
          refine S.moveT rfl ?_
          refine S.extract rfl rfl rfl ?_
          refine S.extract rfl rfl rfl ?_
          refine S.assignT rfl ?_
          refine S.assignT rfl ?_
          refine WS.done ?_
          refine WG.seq ?_
          refine WG.region rfl ?_
          refine S.moveT rfl ?_
          refine S.call ent7 rfl (r_new hS36 ) rfl ?_
          rintro v41 w41 hcs41
          clear hS36
          rcases hcs41 with ⟨hN41, rfl, hS41⟩ | ⟨hN41, bh41, bm41, rfl, hS41⟩
          ·
            skip
            refine S.moveT rfl ?_
            refine S.extract rfl rfl rfl ?_
            refine S.extract rfl rfl rfl ?_
            refine S.alloc hS41 ti24 rfl rfl ?_
            intro b11 w11 hS11; clear hS41
            refine S.storeB (i := 0) hS11 rfl ti24 rfl rfl rfl rfl rfl rfl rfl rfl ?_
            intro w2001 hS2001; clear hS11
            refine S.assignT rfl ?_
            refine WS.done ?_
            refine WG.seq ?_
            refine WG.seq ?_
            refine WG.region rfl ?_
            refine S.moveT rfl ?_
            refine S.neq rfl rfl rfl ?_
            refine S.isTD (d := 45) rfl (by decide) ?_
            refine S.moveT rfl ?_
            refine S.off rfl ?_
            refine S.off rfl ?_
            refine S.pickTC rfl rfl ?_
            refine S.moveT rfl ?_
            refine S.off rfl ?_
            refine S.off rfl ?_
            refine S.pickTC rfl rfl ?_
            refine S.moveT rfl ?_
            refine S.off rfl ?_
            refine S.off rfl ?_
            refine S.pickTC rfl rfl ?_
            refine WS.done ?_
            refine WG.condT rfl ?_
            refine WG.seq ?_
            refine WG.region rfl ?_
            refine S.moveT rfl ?_
            refine S.eqlNilT Try.underlying24 rfl rfl rfl ?_
            refine S.assignT rfl ?_
            refine WS.done ?_
            refine WG.ret (qm0 (ret1 rfl rfl ?_))
            exact ⟨rfl, hS2001.drop⟩
          ·
            exfalso; omega
        ·
          exfalso; omega
      ·
        skip
        refine S.moveT rfl ?_
        refine S.extract rfl rfl rfl ?_
        refine S.extract rfl rfl rfl ?_
        refine S.assignT rfl ?_
        refine S.assignT rfl ?_
        refine WS.done ?_
        refine WG.seq ?_
        refine WG.region rfl ?_
        refine S.moveT rfl ?_
        refine S.call ent8 rfl (s_new hS31 ) rfl ?_
        rintro v36 w36 hcs36
        clear hS31
        rcases hcs36 with ⟨hN36, rfl, hS36⟩ | ⟨hN36, bs36, rfl, hS36⟩
        ·
          exfalso; omega
        ·
          skip
          refine S.moveT rfl ?_
          refine S.extract rfl rfl rfl ?_
          refine S.extract rfl rfl rfl ?_
          refine S.assignT rfl ?_
          refine S.assignT rfl ?_
          refine WS.done ?_
          refine WG.seq ?_
          refine WG.region rfl ?_
          refine S.moveT rfl ?_
          refine S.call ent7 rfl (r_new hS36 ) rfl ?_
          rintro v41 w41 hcs41
          clear hS36
          rcases hcs41 with ⟨hN41, rfl, hS41⟩ | ⟨hN41, bh41, bm41, rfl, hS41⟩
          ·
            exfalso; omega
          ·
            skip
            refine S.moveT rfl ?_
            refine S.extract rfl rfl rfl ?_
            refine S.extract rfl rfl rfl ?_
            refine S.alloc hS41 ti24 rfl rfl ?_
            intro b11 w11 hS11; clear hS41
            refine S.storeB (i := 0) hS11 rfl ti24 rfl rfl rfl rfl rfl rfl rfl rfl ?_
            intro w2002 hS2002; clear hS11
            refine S.assignT rfl ?_
            refine WS.done ?_
            refine WG.seq ?_
            refine WG.seq ?_
            refine WG.region rfl ?_
            refine S.moveT rfl ?_
            refine S.neq rfl rfl rfl ?_
            refine S.isFD (d := 45) rfl (by decide) ?_
            refine S.moveT rfl ?_
            refine S.moveT rfl ?_
            refine S.eqlNil Try.underlying24 rfl rfl rfl ?_
            refine S.pickF rfl rfl ?_
            refine S.moveT rfl ?_
            refine S.moveT rfl ?_
            refine S.eqlNil Try.underlying28 rfl rfl rfl ?_
            refine S.pickF rfl rfl ?_
            refine S.moveT rfl ?_
            refine S.loadB (i := 0) hS2002 rfl Try.underlying24 rfl rfl rfl rfl ?_
            refine S.eqlNil Try.underlying24 rfl rfl rfl ?_
            refine S.pickF rfl rfl ?_
            refine WS.done ?_
            refine WG.condF rfl ?_
            refine WG.skip ?_
            refine WG.seq ?_
            refine WG.seq ?_
            refine WG.region rfl ?_
            refine S.assignC rfl ?_
            refine WS.done ?_
            refine WG.block ?_
            refine WG.loopE (fun rq mm rr wr => ∃ (i : Nat) (m : EM), mm = xs.length - i ∧ (i ≤ xs.length ∧ RI mo m) ∧ rr 13 = .int .i64 (i : Int) ∧ Agr [1, 2, 7, 9, 11] rr rq ∧ St wr R (blk bh31 (.cells (#[.int .i64 mo, .map (some bm31)]) 58 (0, 0)) :: Mp Try.prog 2 bm31 (mE entV m) :: blk bs36 (.cells (tabC [.int .i64 mo] e3C (tabR m)) 61 (0, 0)) :: blk b11 (.cells (#[.pointer (some ⟨bh41, 0, none⟩)]) 24 (0, 0)) :: blk bh41 (.cells (#[.int .i64 mo, .map (some bm41)]) 58 (0, 0)) :: Mp Try.prog 2 bm41 (mE entV []) :: L)) ⟨0, [], rfl, (by exact ⟨Nat.zero_le _, RI.nil (by omega)⟩), rfl, ⟨rfl, rfl, rfl, rfl, rfl, trivial⟩, ((((((hS2002.at_ (i := 2) rfl).at_ (i := 2) rfl).at_ (i := 2) rfl).at_ (i := 3) rfl).at_ (i := 5) rfl).at_ (i := 5) rfl)⟩ ?_
            rintro mm rr w1001 ⟨i, m, hm1001, ⟨hi, hI1⟩, hr1001_13, hA1001, hS1001⟩
            obtain ⟨rr, rfl⟩ := agrBack hA1001
            clear hA1001
            obtain ⟨rr, rfl⟩ := back1 (r := rr) hr1001_13
            clear hr1001_13
            refine WG.seq ?_
            refine WG.seq ?_
            refine WG.region rfl ?_
            refine S.moveT rfl ?_
            refine S.moveT rfl ?_
            refine S.lenSl Try.underlying22 rfl rfl ?_
            refine S.lss rfl rfl rfl ?_
            refine WS.done ?_
            refine WG.condD rfl (fun c63 => ?_) (fun c63 => ?_)
            ·
              skip
              refine WG.skip ?_
              refine WG.seq ?_
              refine WG.block ?_
              refine WG.seq ?_
              refine WG.regionWC (fun j => false) 17 rfl rfl mixed hS1001 (fun wC sC => (sC).only (A := [])) ?_
              intro w6003 hS6003; clear hS1001; have hC := (hS6003).only (A := [])
              refine WA.take (fuel := 16) 0 rfl (by kernel_rfl) (by kernel_rfl) (by kernel_rfl) (by kernel_rfl) rfl rfl hC ?_
              refine Q.moveT rfl ?_
              refine WQ.done ?_
              refine WA.take (fuel := 15) 1 rfl (by kernel_rfl) (by kernel_rfl) (by kernel_rfl) (by kernel_rfl) rfl rfl hC ?_
              refine Q.moveT rfl ?_
              refine WQ.done ?_
              refine WA.take (fuel := 14) 2 rfl (by kernel_rfl) (by kernel_rfl) (by kernel_rfl) (by kernel_rfl) rfl rfl hC ?_
              refine Q.moveT rfl ?_
              refine WQ.done ?_
              refine WA.take (fuel := 13) 3 rfl (by kernel_rfl) (by kernel_rfl) (by kernel_rfl) (by kernel_rfl) rfl rfl hC ?_
              refine Q.indexRo h1 Try.underlying22 ti32 rfl rfl (by omega) rfl ?_
              intro ad69 u69 hu69 hl69 hc69
              refine WQ.done ?_
              refine WA.take (fuel := 12) 4 rfl (by kernel_rfl) (by kernel_rfl) (by kernel_rfl) (by kernel_rfl) rfl rfl hC ?_
              refine Q.fieldElt Try.underlying32 rfl ti2 rfl rfl rfl ?_
              refine WQ.done ?_
              refine WA.take (fuel := 11) 5 rfl (by kernel_rfl) (by kernel_rfl) (by kernel_rfl) (by kernel_rfl) rfl rfl hC ?_
              refine Q.loadRoF hc69 rfl Try.underlying2 rfl rfl rfl ?_
              refine WQ.done ?_
              refine WA.take (fuel := 10) 6 rfl (by kernel_rfl) (by kernel_rfl) (by kernel_rfl) (by kernel_rfl) rfl rfl hC ?_
              refine Q.moveT rfl ?_
              refine WQ.done ?_
              refine WA.take (fuel := 9) 7 rfl (by kernel_rfl) (by kernel_rfl) (by kernel_rfl) (by kernel_rfl) rfl rfl hC ?_
              refine Q.moveT rfl ?_
              refine WQ.done ?_
              refine WA.take (fuel := 8) 8 rfl (by kernel_rfl) (by kernel_rfl) (by kernel_rfl) (by kernel_rfl) rfl rfl hC ?_
              refine Q.indexRo h1 Try.underlying22 ti32 rfl rfl (by omega) rfl ?_
              intro ad74 u74 hu74 hl74 hc74
              refine WQ.done ?_
              refine WA.take (fuel := 7) 9 rfl (by kernel_rfl) (by kernel_rfl) (by kernel_rfl) (by kernel_rfl) rfl rfl hC ?_
              refine Q.fieldElt Try.underlying32 rfl ti2 rfl rfl rfl ?_
              refine WQ.done ?_
              refine WA.take (fuel := 6) 10 rfl (by kernel_rfl) (by kernel_rfl) (by kernel_rfl) (by kernel_rfl) rfl rfl hC ?_
              refine Q.loadRoF hc74 rfl Try.underlying2 rfl rfl rfl ?_
              refine WQ.done ?_
              refine WA.take (fuel := 5) 11 rfl (by kernel_rfl) (by kernel_rfl) (by kernel_rfl) (by kernel_rfl) rfl rfl hC ?_
              refine Q.moveT rfl ?_
              refine WQ.done ?_
              refine WA.take (fuel := 4) 12 rfl (by kernel_rfl) (by kernel_rfl) (by kernel_rfl) (by kernel_rfl) rfl rfl hC ?_
              refine Q.moveT rfl ?_
              refine WQ.done ?_
              refine WA.take (fuel := 3) 13 rfl (by kernel_rfl) (by kernel_rfl) (by kernel_rfl) (by kernel_rfl) rfl rfl hC ?_
              refine Q.indexRo h1 Try.underlying22 ti32 rfl rfl (by omega) rfl ?_
              intro ad79 u79 hu79 hl79 hc79
              refine WQ.done ?_
              refine WA.take (fuel := 2) 14 rfl (by kernel_rfl) (by kernel_rfl) (by kernel_rfl) (by kernel_rfl) rfl rfl hC ?_
              refine Q.fieldElt Try.underlying32 rfl ti2 rfl rfl rfl ?_
              refine WQ.done ?_
              refine WA.take (fuel := 1) 15 rfl (by kernel_rfl) (by kernel_rfl) (by kernel_rfl) (by kernel_rfl) rfl rfl hC ?_
              refine Q.loadRoF hc79 rfl Try.underlying2 rfl rfl rfl ?_
              refine WQ.done ?_
              refine WA.one (fuel := 0) 16 rfl (by kernel_rfl) rfl ?_
              refine S.call ent9 rfl (r_grant hS6003 (by exact fits_wf (hok _ (List.mem_of_getElem? hu69)).2.1) (by exact fits_wf (hok _ (List.mem_of_getElem? hu74)).2.2.1) (by exact fits_wf (hok _ (List.mem_of_getElem? hu79)).2.2.2.1) (by exact hI1)) rfl ?_
              rintro _ w82 ⟨rfl, hS82⟩
              clear hS6003
              refine WS.done ⟨fun _ => ((hS82).only (A := [])), ?_⟩
              replace hC := ((hS82).only (A := []))
              refine WA.done (by kernel_rfl) ?_
              clear hC
              refine WG.regionWC (fun j => false) 17 rfl rfl mixed hS82 (fun wC sC => (sC).only (A := [])) ?_
              intro w6004 hS6004; clear hS82; have hC := (hS6004).only (A := [])
              refine WA.take (fuel := 16) 0 rfl (by kernel_rfl) (by kernel_rfl) (by kernel_rfl) (by kernel_rfl) rfl rfl hC ?_
              refine Q.moveT rfl ?_
              refine WQ.done ?_
              refine WA.take (fuel := 15) 1 rfl (by kernel_rfl) (by kernel_rfl) (by kernel_rfl) (by kernel_rfl) rfl rfl hC ?_
              refine Q.moveT rfl ?_
              refine WQ.done ?_
              refine WA.take (fuel := 14) 2 rfl (by kernel_rfl) (by kernel_rfl) (by kernel_rfl) (by kernel_rfl) rfl rfl hC ?_
              refine Q.moveT rfl ?_
              refine WQ.done ?_
              refine WA.take (fuel := 13) 3 rfl (by kernel_rfl) (by kernel_rfl) (by kernel_rfl) (by kernel_rfl) rfl rfl hC ?_
              refine Q.indexRo h1 Try.underlying22 ti32 rfl rfl (by omega) rfl ?_
              intro ad86 u86 hu86 hl86 hc86
              refine WQ.done ?_
              refine WA.take (fuel := 12) 4 rfl (by kernel_rfl) (by kernel_rfl) (by kernel_rfl) (by kernel_rfl) rfl rfl hC ?_
              refine Q.fieldElt Try.underlying32 rfl ti2 rfl rfl rfl ?_
              refine WQ.done ?_
              refine WA.take (fuel := 11) 5 rfl (by kernel_rfl) (by kernel_rfl) (by kernel_rfl) (by kernel_rfl) rfl rfl hC ?_
              refine Q.loadRoF hc86 rfl Try.underlying2 rfl rfl rfl ?_
              refine WQ.done ?_
              refine WA.take (fuel := 10) 6 rfl (by kernel_rfl) (by kernel_rfl) (by kernel_rfl) (by kernel_rfl) rfl rfl hC ?_
              refine Q.moveT rfl ?_
              refine WQ.done ?_
              refine WA.take (fuel := 9) 7 rfl (by kernel_rfl) (by kernel_rfl) (by kernel_rfl) (by kernel_rfl) rfl rfl hC ?_
              refine Q.moveT rfl ?_
              refine WQ.done ?_
              refine WA.take (fuel := 8) 8 rfl (by kernel_rfl) (by kernel_rfl) (by kernel_rfl) (by kernel_rfl) rfl rfl hC ?_
              refine Q.indexRo h1 Try.underlying22 ti32 rfl rfl (by omega) rfl ?_
              intro ad91 u91 hu91 hl91 hc91
              refine WQ.done ?_
              refine WA.take (fuel := 7) 9 rfl (by kernel_rfl) (by kernel_rfl) (by kernel_rfl) (by kernel_rfl) rfl rfl hC ?_
              refine Q.fieldElt Try.underlying32 rfl ti2 rfl rfl rfl ?_
              refine WQ.done ?_
              refine WA.take (fuel := 6) 10 rfl (by kernel_rfl) (by kernel_rfl) (by kernel_rfl) (by kernel_rfl) rfl rfl hC ?_
              refine Q.loadRoF hc91 rfl Try.underlying2 rfl rfl rfl ?_
              refine WQ.done ?_
              refine WA.take (fuel := 5) 11 rfl (by kernel_rfl) (by kernel_rfl) (by kernel_rfl) (by kernel_rfl) rfl rfl hC ?_
              refine Q.moveT rfl ?_
              refine WQ.done ?_
              refine WA.take (fuel := 4) 12 rfl (by kernel_rfl) (by kernel_rfl) (by kernel_rfl) (by kernel_rfl) rfl rfl hC ?_
              refine Q.moveT rfl ?_
              refine WQ.done ?_
              refine WA.take (fuel := 3) 13 rfl (by kernel_rfl) (by kernel_rfl) (by kernel_rfl) (by kernel_rfl) rfl rfl hC ?_
              refine Q.indexRo h1 Try.underlying22 ti32 rfl rfl (by omega) rfl ?_
              intro ad96 u96 hu96 hl96 hc96
              refine WQ.done ?_
              refine WA.take (fuel := 2) 14 rfl (by kernel_rfl) (by kernel_rfl) (by kernel_rfl) (by kernel_rfl) rfl rfl hC ?_
              refine Q.fieldElt Try.underlying32 rfl ti2 rfl rfl rfl ?_
              refine WQ.done ?_
              refine WA.take (fuel := 1) 15 rfl (by kernel_rfl) (by kernel_rfl) (by kernel_rfl) (by kernel_rfl) rfl rfl hC ?_
              refine Q.loadRoF hc96 rfl Try.underlying2 rfl rfl rfl ?_
              refine WQ.done ?_
              refine WA.one (fuel := 0) 16 rfl (by kernel_rfl) rfl ?_
              refine S.call ent10 rfl (s_grant ((((((hS6004.at_ (i := 5) rfl).at_ (i := 5) rfl).at_ (i := 5) rfl).at_ (i := 4) rfl).at_ (i := 4) rfl).at_ (i := 5) rfl) (by exact hI1)) rfl ?_
              rintro _ w99 ⟨rfl, hS99⟩
              clear hS6004
              refine WS.done ⟨fun _ => ((hS99).only (A := [])), ?_⟩
              replace hC := ((hS99).only (A := []))
              refine WA.done (by kernel_rfl) ?_
              clear hC
              refine WG.region rfl ?_
              refine S.moveT rfl ?_
              first
                | refine S.addN rfl rfl rfl (by omega) ?_
                | refine S.add rfl rfl rfl ?_
              refine S.assignT rfl ?_
              refine WS.done ?_
              obtain rfl : u74 = u69 := Option.some.inj (hu74.symm.trans hu69)
              obtain rfl : u79 = u74 := Option.some.inj (hu79.symm.trans hu74)
              obtain rfl : u86 = u79 := Option.some.inj (hu86.symm.trans hu79)
              obtain rfl : u91 = u86 := Option.some.inj (hu91.symm.trans hu86)
              obtain rfl : u96 = u91 := Option.some.inj (hu96.symm.trans hu91)
              exact ⟨rfl, _, (by omega), ⟨i + 1, _, rfl, (by exact ⟨by omega, by exact hI1.grant⟩), rfl, ⟨rfl, rfl, rfl, rfl, rfl, trivial⟩, ((((((hS99.at_ (i := 5) rfl).at_ (i := 5) rfl).at_ (i := 5) rfl).at_ (i := 3) rfl).at_ (i := 5) rfl).at_ (i := 5) rfl)⟩⟩
            ·
              skip
              refine WG.exit ?_
              refine WG.seq ?_
              refine WG.region rfl ?_
              refine S.alloc hS1001 ti4 rfl rfl ?_
              intro b14 w14 hS14; clear hS1001
              refine S.storeB (i := 0) hS14 rfl ti4 rfl rfl rfl rfl rfl rfl rfl rfl ?_
              intro w2005 hS2005; clear hS14
              refine WS.done ?_
              refine WG.seq ?_
              refine WG.seq ?_
              refine WG.region rfl ?_
              refine S.moveT rfl ?_
              refine S.call ent18 rfl (r_all hS2005 ) rfl ?_
              rintro _ w101 ⟨R101, bp101, hR101, rfl, hro101, hS101⟩
              clear hS2005
              replace h1 := h1.mono hR101
              replace h2 := h2.mono hR101
              refine WS.done ?_
              refine WG.block ?_
              refine WG.rangeFuncX (xs := m) (enc := entA) (Lc := [blk b14 (.cells (#[.bool true]) 4 (0, 0)), blk b11 (.cells (#[.pointer (some ⟨bh41, 0, none⟩)]) 24 (0, 0)), blk bh41 (.cells (#[.int .i64 mo, .map (some bm41)]) 58 (0, 0)), Mp Try.prog 2 bm41 (mE entV ([] : EM))]) (T := _) (fun pre _ Lk => Lk = [blk b14 (.cells (#[.bool true]) 4 (0, 0)), blk b11 (.cells (#[.pointer (some ⟨bh41, 0, none⟩)]) 24 (0, 0)), blk bh41 (.cells (#[.int .i64 mo, .map (some bm41)]) 58 (0, 0)), Mp Try.prog 2 bm41 (mE entV pre)]) (fun _ _ => False) (fun r x b => upd (cp (upd (upd r 102 (.int .i64 x.1)) 103 (entV x.2)) 15 102) 16 (.pointer (some ⟨b, 0, none⟩))) (fun x b => [blk b (.cells (#[.int .i64 x.2.1, .int .i64 x.2.2.1, .int .i64 x.2.2.2]) 34 (0, 0))]) (((((((hS101.at_ (i := 3) rfl).at_ (i := 3) rfl).at_ (i := 3) rfl).at_ (i := 6) rfl).at_ (i := 6) rfl).at_ (i := 6) rfl).at_ (i := 6) rfl) rfl (fun args w => run_callFunc ent23 args w) (fun _ => rfl) rfl (all_iter hro101 hI1) (Kn.le.refl _) ((perm_erase _ 5 _ rfl).trans (perm_erase _ 5 _ rfl)) (rfl) ?_ ?_ ?_ ?_
              ·
                intro pre x suf Rk Lk T' W hpx hle hI hSa l K hK
                rw [show entA x = #[.int .i64 x.1, entV x.2] from rfl, setp2]
                refine WG.seq ?_
                refine WG.region rfl ?_
                refine S.assignT rfl ?_
                refine WS.done ?_
                refine WG.region rfl ?_
                refine S.alloc hSa ti34 rfl rfl ?_
                intro b16 w16 hS16; clear hSa
                refine S.storeB (i := 0) hS16 rfl ti34 rfl rfl rfl rfl rfl rfl rfl rfl ?_
                intro w2006 hS2006; clear hS16
                refine WS.done ?_
                exact ⟨rfl, hK b16 _ hS2006⟩
              ·
                intro l T' pre x suf Rk Lk b W hpx hle hI hSb
                subst hI
                obtain ⟨bx, rfl⟩ : ∃ bx, bx = b := ⟨b, rfl⟩
                replace hSb : St W Rk (blk bx (.cells (#[.int .i64 x.2.1, .int .i64 x.2.2.1, .int .i64 x.2.2.2]) 34 (0, 0)) :: blk b14 (.cells (#[.bool true]) 4 (0, 0)) :: blk b11 (.cells (#[.pointer (some ⟨bh41, 0, none⟩)]) 24 (0, 0)) :: blk bh41 (.cells (#[.int .i64 mo, .map (some bm41)]) 58 (0, 0)) :: Mp Try.prog 2 bm41 (mE entV pre) :: T') := hSb
                have hxm : x ∈ m := by rw [← hpx]; simp
                have hxk := hI1.key x hxm
                have hRp : RI mo pre := by rw [← hpx] at hI1; exact hI1.prefix
                have hst : sett mo pre x.1 (x.2.1, x.2.2.1, x.2.2.2) = (0, pre ++ [x]) := by rw [← hpx] at hI1; exact hI1.sett_snoc
                refine WG.block ?_
                refine WG.region rfl ?_
                refine S.loadB (i := 2) hSb rfl Try.underlying24 rfl rfl rfl rfl ?_
                refine S.moveT rfl ?_
                refine S.loadBA (i := 0) hSb rfl Try.underlying34 rfl ti34 rfl rfl rfl rfl ?_
                refine S.call ent12 rfl (r_set (((((hSb.at_ (i := 2) rfl).at_ (i := 2) rfl).at_ (i := 2) rfl).at_ (i := 4) rfl).at_ (i := 4) rfl) (by unfold fits; omega) (by exact hRp)) rfl ?_
                rintro _ w107 ⟨rfl, hS107⟩
                clear hSb
                refine S.as (d := 107) rfl (v' := .int .i64 0) (by rw [hst]; rfl) ?_
                rw [show (sett mo pre x.1 (x.2.1, x.2.2.1, x.2.2.2)).2 = pre ++ [x] by rw [hst]] at hS107
                refine S.eql rfl rfl rfl ?_
                refine S.isTD (d := 108) rfl (by rfl) ?_
                refine S.moveT rfl ?_
                refine S.loadB (i := 3) hS107 rfl Try.underlying4 rfl rfl rfl rfl ?_
                refine S.pickT rfl rfl ?_
                refine S.storeB (i := 3) hS107 rfl ti4 rfl rfl rfl rfl rfl rfl rfl rfl ?_
                intro w2007 hS2007; clear hS107
                refine WS.done ?_
                exact ⟨rfl, Rk, [blk b14 (.cells (#[.bool true]) 4 (0, 0)), blk b11 (.cells (#[.pointer (some ⟨bh41, 0, none⟩)]) 24 (0, 0)), blk bh41 (.cells (#[.int .i64 mo, .map (some bm41)]) 58 (0, 0)), Mp Try.prog 2 bm41 (mE entV (pre ++ [x]))], Kn.le.refl _, rfl, (((((hS2007.at_ (i := 1) rfl).at_ (i := 1) rfl).at_ (i := 4) rfl).at_ (i := 4) rfl).at_ (i := 4) rfl).drop⟩
              ·
                intro D Rk Lk W hle hI hSd
                subst hI
                replace hSd : St W Rk (blk b14 (.cells (#[.bool true]) 4 (0, 0)) :: blk b11 (.cells (#[.pointer (some ⟨bh41, 0, none⟩)]) 24 (0, 0)) :: blk bh41 (.cells (#[.int .i64 mo, .map (some bm41)]) 58 (0, 0)) :: Mp Try.prog 2 bm41 (mE entV m) :: defC D :: _) := hSd
                replace h1 := h1.mono hle
                replace h2 := h2.mono hle
                refine WG.seq ?_
                refine WG.region rfl ?_
                refine S.moveT rfl ?_
                refine S.call ent19 rfl (r_clone ((((((((hSd.at_ (i := 7) rfl).at_ (i := 5) rfl).at_ (i := 5) rfl).at_ (i := 5) rfl).at_ (i := 5) rfl).at_ (i := 5) rfl).at_ (i := 7) rfl).at_ (i := 7) rfl) ) rfl ?_
                rintro _ w113 ⟨bh113, bm113, rfl, hS113⟩
                clear hSd
                refine S.assignT rfl ?_
                refine WS.done ?_
                refine WG.seq ?_
                refine WG.seq ?_
                refine WG.region rfl ?_
                refine S.loadB (i := 4) hS113 rfl Try.underlying4 rfl rfl rfl rfl ?_
                refine S.not rfl rfl ?_
                refine S.moveT rfl ?_
                refine S.moveT rfl ?_
                refine S.eqlNil Try.underlying24 rfl rfl rfl ?_
                refine S.pickF rfl rfl ?_
                refine WS.done ?_
                refine WG.condF rfl ?_
                refine WG.skip ?_
                refine WG.seq ?_
                refine WG.seq ?_
                refine WG.region rfl ?_
                refine S.assignC rfl ?_
                refine WS.done ?_
                refine WG.block ?_
                refine WG.loopE (fun rq mm rr wr => ∃ (i : Nat) (m2 : EM), mm = ys.length - i ∧ (i ≤ ys.length ∧ RI mo m2) ∧ rr 18 = .int .i64 (i : Int) ∧ Agr [2, 7, 9, 11, 17] rr rq ∧ St wr Rk (blk bh31 (.cells (#[.int .i64 mo, .map (some bm31)]) 58 (0, 0)) :: Mp Try.prog 2 bm31 (mE entV m2) :: blk bh113 (.cells (#[.int .i64 mo, .map (some bm113)]) 58 (0, 0)) :: Mp Try.prog 2 bm113 (mE entV m) :: blk b14 (.cells (#[.bool true]) 4 (0, 0)) :: blk b11 (.cells (#[.pointer (some ⟨bh41, 0, none⟩)]) 24 (0, 0)) :: blk bh41 (.cells (#[.int .i64 mo, .map (some bm41)]) 58 (0, 0)) :: Mp Try.prog 2 bm41 (mE entV m) :: blk bs36 (.cells (tabC [.int .i64 mo] e3C (tabR m)) 61 (0, 0)) :: defC D :: L)) ⟨0, m, rfl, (by exact ⟨Nat.zero_le _, hI1⟩), rfl, ⟨rfl, rfl, rfl, rfl, rfl, trivial⟩, ((((((((((hS113.at_ (i := 8) rfl).at_ (i := 9) rfl).at_ (i := 9) rfl).at_ (i := 9) rfl).at_ (i := 9) rfl).at_ (i := 9) rfl).at_ (i := 7) rfl).at_ (i := 7) rfl).at_ (i := 9) rfl).at_ (i := 9) rfl)⟩ ?_
                rintro mm rr w1002 ⟨i, m2, hm1002, ⟨hi, hI2⟩, hr1002_18, hA1002, hS1002⟩
                obtain ⟨rr, rfl⟩ := agrBack hA1002
                clear hA1002
                obtain ⟨rr, rfl⟩ := back1 (r := rr) hr1002_18
                clear hr1002_18
                refine WG.seq ?_
                refine WG.seq ?_
                refine WG.region rfl ?_
                refine S.moveT rfl ?_
                refine S.moveT rfl ?_
                refine S.lenSl Try.underlying22 rfl rfl ?_
                refine S.lss rfl rfl rfl ?_
                refine WS.done ?_
                refine WG.condD rfl (fun c123 => ?_) (fun c123 => ?_)
                ·
                  skip
                  refine WG.skip ?_
                  refine WG.seq ?_
                  refine WG.block ?_
                  refine WG.regionWC (fun j => false) 17 rfl rfl mixed hS1002 (fun wC sC => (sC).only (A := [])) ?_
                  intro w6008 hS6008; clear hS1002; have hC := (hS6008).only (A := [])
                  refine WA.take (fuel := 16) 0 rfl (by kernel_rfl) (by kernel_rfl) (by kernel_rfl) (by kernel_rfl) rfl rfl hC ?_
                  refine Q.moveT rfl ?_
                  refine WQ.done ?_
                  refine WA.take (fuel := 15) 1 rfl (by kernel_rfl) (by kernel_rfl) (by kernel_rfl) (by kernel_rfl) rfl rfl hC ?_
                  refine Q.moveT rfl ?_
                  refine WQ.done ?_
                  refine WA.take (fuel := 14) 2 rfl (by kernel_rfl) (by kernel_rfl) (by kernel_rfl) (by kernel_rfl) rfl rfl hC ?_
                  refine Q.moveT rfl ?_
                  refine WQ.done ?_
                  refine WA.take (fuel := 13) 3 rfl (by kernel_rfl) (by kernel_rfl) (by kernel_rfl) (by kernel_rfl) rfl rfl hC ?_
                  refine Q.indexRo h2 Try.underlying22 ti32 rfl rfl (by omega) rfl ?_
                  intro ad129 u129 hu129 hl129 hc129
                  refine WQ.done ?_
                  refine WA.take (fuel := 12) 4 rfl (by kernel_rfl) (by kernel_rfl) (by kernel_rfl) (by kernel_rfl) rfl rfl hC ?_
                  refine Q.fieldElt Try.underlying32 rfl ti2 rfl rfl rfl ?_
                  refine WQ.done ?_
                  refine WA.take (fuel := 11) 5 rfl (by kernel_rfl) (by kernel_rfl) (by kernel_rfl) (by kernel_rfl) rfl rfl hC ?_
                  refine Q.loadRoF hc129 rfl Try.underlying2 rfl rfl rfl ?_
                  refine WQ.done ?_
                  refine WA.take (fuel := 10) 6 rfl (by kernel_rfl) (by kernel_rfl) (by kernel_rfl) (by kernel_rfl) rfl rfl hC ?_
                  refine Q.moveT rfl ?_
                  refine WQ.done ?_
                  refine WA.take (fuel := 9) 7 rfl (by kernel_rfl) (by kernel_rfl) (by kernel_rfl) (by kernel_rfl) rfl rfl hC ?_
                  refine Q.moveT rfl ?_
                  refine WQ.done ?_
                  refine WA.take (fuel := 8) 8 rfl (by kernel_rfl) (by kernel_rfl) (by kernel_rfl) (by kernel_rfl) rfl rfl hC ?_
                  refine Q.indexRo h2 Try.underlying22 ti32 rfl rfl (by omega) rfl ?_
                  intro ad134 u134 hu134 hl134 hc134
                  refine WQ.done ?_
                  refine WA.take (fuel := 7) 9 rfl (by kernel_rfl) (by kernel_rfl) (by kernel_rfl) (by kernel_rfl) rfl rfl hC ?_
                  refine Q.fieldElt Try.underlying32 rfl ti2 rfl rfl rfl ?_
                  refine WQ.done ?_
                  refine WA.take (fuel := 6) 10 rfl (by kernel_rfl) (by kernel_rfl) (by kernel_rfl) (by kernel_rfl) rfl rfl hC ?_
                  refine Q.loadRoF hc134 rfl Try.underlying2 rfl rfl rfl ?_
                  refine WQ.done ?_
                  refine WA.take (fuel := 5) 11 rfl (by kernel_rfl) (by kernel_rfl) (by kernel_rfl) (by kernel_rfl) rfl rfl hC ?_
                  refine Q.moveT rfl ?_
                  refine WQ.done ?_
                  refine WA.take (fuel := 4) 12 rfl (by kernel_rfl) (by kernel_rfl) (by kernel_rfl) (by kernel_rfl) rfl rfl hC ?_
                  refine Q.moveT rfl ?_
                  refine WQ.done ?_
                  refine WA.take (fuel := 3) 13 rfl (by kernel_rfl) (by kernel_rfl) (by kernel_rfl) (by kernel_rfl) rfl rfl hC ?_
                  refine Q.indexRo h2 Try.underlying22 ti32 rfl rfl (by omega) rfl ?_
                  intro ad139 u139 hu139 hl139 hc139
                  refine WQ.done ?_
                  refine WA.take (fuel := 2) 14 rfl (by kernel_rfl) (by kernel_rfl) (by kernel_rfl) (by kernel_rfl) rfl rfl hC ?_
                  refine Q.fieldElt Try.underlying32 rfl ti2 rfl rfl rfl ?_
                  refine WQ.done ?_
                  refine WA.take (fuel := 1) 15 rfl (by kernel_rfl) (by kernel_rfl) (by kernel_rfl) (by kernel_rfl) rfl rfl hC ?_
                  refine Q.loadRoF hc139 rfl Try.underlying2 rfl rfl rfl ?_
                  refine WQ.done ?_
                  refine WA.one (fuel := 0) 16 rfl (by kernel_rfl) rfl ?_
                  refine S.call ent9 rfl (r_grant hS6008 (by exact fits_wf (hok2 _ (List.mem_of_getElem? hu129)).2.1) (by exact fits_wf (hok2 _ (List.mem_of_getElem? hu134)).2.2.1) (by exact fits_wf (hok2 _ (List.mem_of_getElem? hu139)).2.2.2.1) (by exact hI2)) rfl ?_
                  rintro _ w142 ⟨rfl, hS142⟩
                  clear hS6008
                  refine WS.done ⟨fun _ => ((hS142).only (A := [])), ?_⟩
                  replace hC := ((hS142).only (A := []))
                  refine WA.done (by kernel_rfl) ?_
                  clear hC
                  refine WG.region rfl ?_
                  refine S.moveT rfl ?_
                  first
                    | refine S.addN rfl rfl rfl (by omega) ?_
                    | refine S.add rfl rfl rfl ?_
                  refine S.assignT rfl ?_
                  refine WS.done ?_
                  exact ⟨rfl, _, (by omega), ⟨i + 1, _, rfl, (by exact ⟨by omega, by exact hI2.grant⟩), rfl, ⟨rfl, rfl, rfl, rfl, rfl, trivial⟩, hS142⟩⟩
                ·
                  skip
                  refine WG.exit ?_
                  refine WG.seq ?_
                  refine WG.region rfl ?_
                  refine S.moveT rfl ?_
                  refine S.moveT rfl ?_
                  refine S.call ent14 rfl (l15_Agree ((((((((((hS1002.at_ (i := 9) rfl).at_ (i := 8) rfl).at_ (i := 8) rfl).at_ (i := 8) rfl).at_ (i := 8) rfl).at_ (i := 6) rfl).at_ (i := 6) rfl).at_ (i := 9) rfl).at_ (i := 9) rfl).at_ (i := 9) rfl) (by exact hI1)) rfl ?_
                  rintro _ w145 ⟨rfl, hS145⟩
                  clear hS1002
                  refine S.moveT rfl ?_
                  refine S.loadB (i := 6) hS145 rfl Try.underlying24 rfl rfl rfl rfl ?_
                  refine S.moveT rfl ?_
                  refine S.call ent14 rfl (l15_Agree ((((((((((hS145.at_ (i := 9) rfl).at_ (i := 7) rfl).at_ (i := 7) rfl).at_ (i := 7) rfl).at_ (i := 7) rfl).at_ (i := 6) rfl).at_ (i := 6) rfl).at_ (i := 7) rfl).at_ (i := 9) rfl).at_ (i := 9) rfl) (by exact hI1)) rfl ?_
                  rintro _ w149 ⟨rfl, hS149⟩
                  clear hS145
                  refine S.pickT rfl rfl ?_
                  refine S.assignT rfl ?_
                  refine WS.done ?_
                  refine WG.ret (retM (A := []) (hS149.at_ (i := 9) rfl) (fun wz hSz => ?_))
                  refine ret1 rfl rfl ?_
                  exact ⟨rfl, (hSz.drop.drop.drop.drop.drop.drop.drop.drop.drop).weak (hR101.trans hle)⟩
              ·
                intro D Rk Lk W hle hI _
                exact hI.elim


end Go.Proofs.Ytiffedgmageiaaa.B

import Derived.Test.YtfajmfdoemjacaaWalkR
namespace Go.Proofs.Ytfajmfdoemjacaa.B
open Go.Proofs Go.RowKit
set_option linter.unusedVariables false
set_option linter.unusedSimpArgs false
set_option maxRecDepth 100000 in
set_option maxHeartbeats 4000000 in
theorem l6_told {w : World} {R : Kn} {L : List HP} {b : Nat} {v0 : Value} {e : Int} (hS : St w R (blk b (.cells (#[v0, .int .i64 e]) 55 (0, 0)) :: L)) {xs : List Int} (h0 : Ro R (encI .u8) 1 v0 xs) (hb : (∀ x ∈ xs, 0 ≤ x ∧ x < 256)) (hm : xs.length ≤ 100000000) {va vb vc : Value} {us bs : List Int} {cs : List ByteArray} (ha : Ro R (encI .u64) 1 va us) (hbb : Ro R (encI .i64) 1 vb bs) (hc : Ro R encS 1 vc cs) (hma : us.length ≤ 1000000) (hmb : bs.length ≤ 1000000) (hmc : cs.length ≤ 1000000) :
    Fn Try.prog 19 #[.pointer (some ⟨b, 0, none⟩), va, vb, vc] w (fun v w' => ∃ v1, v = .bool (tok (tA us bs cs (true, xs, e))) ∧ St w' R (blk b (.cells (#[v1, .int .i64 (rdE (tA us bs cs (true, xs, e)).2.1 (tA us bs cs (true, xs, e)).2.2)]) 55 (0, 0)) :: L)) := by
  obtain ⟨aa, ca, rfl, hla⟩ := ha.len
  obtain ⟨ab, cb, rfl, hlb⟩ := hbb.len
  obtain ⟨ac, cc, rfl, hlc⟩ := hc.len
  refine Fn.intro (n := 80) Try.func19 rfl rfl rfl ?_
  refine WR.seq ?_
  refine WR.region rfl ?_
  refine S.assignC rfl ?_
  refine WS.done ?_
  refine WR.seq ?_
  refine WR.seq ?_
  refine WR.region rfl ?_
  refine S.moveT rfl ?_
  refine S.eqlNil Try.underlying39 rfl rfl rfl ?_
  refine WS.done ?_
  refine WR.condF rfl ?_
  refine WR.skip ?_
  refine WR.seq ?_
  refine WR.region rfl ?_
  refine S.assignC rfl ?_
  refine WS.done ?_
  refine WR.seq ?_
  refine WR.seq ?_
  refine WR.region rfl ?_
  refine S.assignC rfl ?_
  refine WS.done ?_
  refine WR.block ?_
  refine WR.loopE (fun rq mm rr wr => ∃ (i : Nat) (ok : Bool) (v1 : Value) (ys : List Int) (e1 : Int), mm = us.length - i ∧ (i ≤ us.length ∧ tG rdU (fun a => a) (us.take i) (true, xs, e) = (ok, ys, e1) ∧ Ro R (encI .u8) 1 v1 ys ∧ (∀ x ∈ ys, 0 ≤ x ∧ x < 256) ∧ ys.length ≤ 100000000) ∧ rr 9 = .bool ok ∧ rr 10 = .int .i64 (i : Int) ∧ Agr [0, 1, 2, 3] rr rq ∧ St wr R (blk b (.cells (#[v1, .int .i64 e1]) 55 (0, 0)) :: L)) ⟨0, true, v0, xs, e, rfl, (by exact ⟨by omega, rfl, h0, hb, hm⟩), rfl, rfl, ⟨rfl, rfl, rfl, rfl, trivial⟩, hS⟩ ?_
  rintro mm rr w1001 ⟨i, ok, v1, ys, e1, hm1001, ⟨hi, htg, hrv, hbv, hmv⟩, hr1001_9, hr1001_10, hA1001, hS1001⟩
  obtain ⟨rr, rfl⟩ := agrBack hA1001
  clear hA1001
  obtain ⟨rr, rfl⟩ := back2 (r := rr) hr1001_9 hr1001_10
  clear hr1001_9 hr1001_10
  refine WR.seq ?_
  refine WR.seq ?_
  refine WR.region rfl ?_
  refine S.moveT rfl ?_
  refine S.moveT rfl ?_
  refine S.lenSl Try.underlying22 rfl rfl ?_
  refine S.lss rfl rfl rfl ?_
  refine WS.done ?_
  refine WR.condD rfl (fun c21 => ?_) (fun c21 => ?_)
  ·
    skip
    refine WR.skip ?_
    refine WR.seq ?_
    refine WR.block ?_
    refine WR.seq ?_
    refine WR.region rfl ?_
    refine S.moveT rfl ?_
    refine S.call ent23 rfl (c_rUint hS1001 (by exact hrv) (by exact hbv) (by exact hmv)) rfl ?_
    rintro _ w25 ⟨vs25, rfl, hro25, hS25⟩
    clear hS1001
    refine S.assignT rfl ?_
    refine WS.done ?_
    refine WR.region rfl ?_
    refine S.moveT rfl ?_
    refine S.moveT rfl ?_
    refine S.splitB (d := 27) rfl (fun c27 => ?_) (fun c27 => ?_)
    ·
      skip
      refine S.moveT rfl ?_
      refine S.moveT rfl ?_
      refine S.moveT rfl ?_
      refine S.indexRo ha Try.underlying22 ti28 rfl rfl (by omega) rfl ?_
      intro ad31 u31 hu31 hl31 hc31
      refine S.loadRo hS25 hc31 rfl Try.underlying28 rfl rfl rfl ?_
      refine S.eql rfl rfl rfl ?_
      refine S.pickT rfl rfl ?_
      refine S.assignT rfl ?_
      refine WS.done ?_
      refine WR.region rfl ?_
      refine S.moveT rfl ?_
      first
        | refine S.addN rfl rfl rfl (by omega) ?_
        | refine S.add rfl rfl rfl ?_
      refine S.assignT rfl ?_
      refine WS.done ?_
      exact ⟨_, (by omega), ⟨i + 1, _, _, _, _, rfl, (by exact ⟨by omega, by first | exact (tG_succ (getI hu31) htg).trans (by rw [c27]; rfl) | exact (tG_succ (List.getElem?_eq_getElem (by omega)) htg).trans (by rw [c27]; rfl), hro25, fun x hx => hbv x ((rdU_sub (xs := ys) (e := e1)).1 x hx), Nat.le_trans (rdU_sub (xs := ys) (e := e1)).2 hmv⟩), rfl, rfl, ⟨rfl, rfl, rfl, rfl, trivial⟩, hS25⟩⟩
    ·
      skip
      refine S.off rfl ?_
      refine S.off rfl ?_
      refine S.off rfl ?_
      refine S.off rfl ?_
      refine S.off rfl ?_
      refine S.off rfl ?_
      refine S.pickFC rfl rfl ?_
      refine S.assignT rfl ?_
      refine WS.done ?_
      refine WR.region rfl ?_
      refine S.moveT rfl ?_
      first
        | refine S.addN rfl rfl rfl (by omega) ?_
        | refine S.add rfl rfl rfl ?_
      refine S.assignT rfl ?_
      refine WS.done ?_
      exact ⟨_, (by omega), ⟨i + 1, _, _, _, _, rfl, (by exact ⟨by omega, by first | exact (tG_succ (getI hu31) htg).trans (by rw [c27]; rfl) | exact (tG_succ (List.getElem?_eq_getElem (by omega)) htg).trans (by rw [c27]; rfl), hro25, fun x hx => hbv x ((rdU_sub (xs := ys) (e := e1)).1 x hx), Nat.le_trans (rdU_sub (xs := ys) (e := e1)).2 hmv⟩), rfl, rfl, ⟨rfl, rfl, rfl, rfl, trivial⟩, hS25⟩⟩
  ·
    skip
    refine WR.exit ?_
    refine WR.seq ?_
    refine WR.seq ?_
    refine WR.region rfl ?_
    refine S.assignC rfl ?_
    refine WS.done ?_
    refine WR.block ?_
    refine WR.loopE (fun rq mm rr wr => ∃ (i : Nat) (ok : Bool) (v1 : Value) (ys : List Int) (e1 : Int), mm = bs.length - i ∧ (i ≤ bs.length ∧ tG fI (fun a => a) (bs.take i) (tG rdU (fun a => a) us (true, xs, e)) = (ok, ys, e1) ∧ Ro R (encI .u8) 1 v1 ys ∧ (∀ x ∈ ys, 0 ≤ x ∧ x < 256) ∧ ys.length ≤ 100000000) ∧ rr 9 = .bool ok ∧ rr 12 = .int .i64 (i : Int) ∧ Agr [0, 2, 3] rr rq ∧ St wr R (blk b (.cells (#[v1, .int .i64 e1]) 55 (0, 0)) :: L)) ⟨0, _, _, _, _, rfl, (by exact ⟨by omega, by rw [List.take_of_length_le (by omega)] at htg; exact htg, hrv, hbv, hmv⟩), rfl, rfl, ⟨rfl, rfl, rfl, trivial⟩, hS1001⟩ ?_
    rintro mm rr w1002 ⟨i, ok, v1, ys, e1, hm1002, ⟨hi, htg, hrv, hbv, hmv⟩, hr1002_9, hr1002_12, hA1002, hS1002⟩
    obtain ⟨rr, rfl⟩ := agrBack hA1002
    clear hA1002
    obtain ⟨rr, rfl⟩ := back2 (r := rr) hr1002_9 hr1002_12
    clear hr1002_9 hr1002_12
    refine WR.seq ?_
    refine WR.seq ?_
    refine WR.region rfl ?_
    refine S.moveT rfl ?_
    refine S.moveT rfl ?_
    refine S.lenSl Try.underlying23 rfl rfl ?_
    refine S.lss rfl rfl rfl ?_
    refine WS.done ?_
    refine WR.condD rfl (fun c38 => ?_) (fun c38 => ?_)
    ·
      skip
      refine WR.skip ?_
      refine WR.seq ?_
      refine WR.block ?_
      refine WR.seq ?_
      refine WR.region rfl ?_
      refine S.moveT rfl ?_
      refine S.call ent25 rfl (c_rInt hS1002 (by exact hrv) (by exact hbv) (by exact hmv)) rfl ?_
      rintro _ w42 ⟨vs42, rfl, hro42, hS42⟩
      clear hS1002
      refine S.assignT rfl ?_
      refine WS.done ?_
      refine WR.region rfl ?_
      refine S.moveT rfl ?_
      refine S.moveT rfl ?_
      refine S.splitB (d := 44) rfl (fun c44 => ?_) (fun c44 => ?_)
      ·
        skip
        refine S.moveT rfl ?_
        refine S.moveT rfl ?_
        refine S.moveT rfl ?_
        refine S.indexRo hbb Try.underlying23 ti2 rfl rfl (by omega) rfl ?_
        intro ad48 u48 hu48 hl48 hc48
        refine S.loadRo hS42 hc48 rfl Try.underlying2 rfl rfl rfl ?_
        refine S.eql rfl rfl rfl ?_
        refine S.pickT rfl rfl ?_
        refine S.assignT rfl ?_
        refine WS.done ?_
        refine WR.region rfl ?_
        refine S.moveT rfl ?_
        first
          | refine S.addN rfl rfl rfl (by omega) ?_
          | refine S.add rfl rfl rfl ?_
        refine S.assignT rfl ?_
        refine WS.done ?_
        exact ⟨_, (by omega), ⟨i + 1, _, _, _, _, rfl, (by exact ⟨by omega, by first | exact (tG_succ (getI hu48) htg).trans (by rw [c44]; rfl) | exact (tG_succ (List.getElem?_eq_getElem (by omega)) htg).trans (by rw [c44]; rfl), hro42, fun x hx => hbv x ((rdU_sub (xs := ys) (e := e1)).1 x hx), Nat.le_trans (rdU_sub (xs := ys) (e := e1)).2 hmv⟩), rfl, rfl, ⟨rfl, rfl, rfl, trivial⟩, hS42⟩⟩
      ·
        skip
        refine S.off rfl ?_
        refine S.off rfl ?_
        refine S.off rfl ?_
        refine S.off rfl ?_
        refine S.off rfl ?_
        refine S.off rfl ?_
        refine S.pickFC rfl rfl ?_
        refine S.assignT rfl ?_
        refine WS.done ?_
        refine WR.region rfl ?_
        refine S.moveT rfl ?_
        first
          | refine S.addN rfl rfl rfl (by omega) ?_
          | refine S.add rfl rfl rfl ?_
        refine S.assignT rfl ?_
        refine WS.done ?_
        exact ⟨_, (by omega), ⟨i + 1, _, _, _, _, rfl, (by exact ⟨by omega, by first | exact (tG_succ (getI hu48) htg).trans (by rw [c44]; rfl) | exact (tG_succ (List.getElem?_eq_getElem (by omega)) htg).trans (by rw [c44]; rfl), hro42, fun x hx => hbv x ((rdU_sub (xs := ys) (e := e1)).1 x hx), Nat.le_trans (rdU_sub (xs := ys) (e := e1)).2 hmv⟩), rfl, rfl, ⟨rfl, rfl, rfl, trivial⟩, hS42⟩⟩
    ·
      skip
      refine WR.exit ?_
      refine WR.seq ?_
      refine WR.seq ?_
      refine WR.region rfl ?_
      refine S.assignC rfl ?_
      refine WS.done ?_
      refine WR.block ?_
      refine WR.loopE (fun rq mm rr wr => ∃ (i : Nat) (ok : Bool) (v1 : Value) (ys : List Int) (e1 : Int), mm = cs.length - i ∧ (i ≤ cs.length ∧ tG fT (fun a => a) (cs.take i) (tG fI (fun a => a) bs (tG rdU (fun a => a) us (true, xs, e))) = (ok, ys, e1) ∧ Ro R (encI .u8) 1 v1 ys ∧ (∀ x ∈ ys, 0 ≤ x ∧ x < 256) ∧ ys.length ≤ 100000000) ∧ rr 9 = .bool ok ∧ rr 14 = .int .i64 (i : Int) ∧ Agr [0, 3] rr rq ∧ St wr R (blk b (.cells (#[v1, .int .i64 e1]) 55 (0, 0)) :: L)) ⟨0, _, _, _, _, rfl, (by exact ⟨by omega, by rw [List.take_of_length_le (by omega)] at htg; exact htg, hrv, hbv, hmv⟩), rfl, rfl, ⟨rfl, rfl, trivial⟩, hS1002⟩ ?_
      rintro mm rr w1003 ⟨i, ok, v1, ys, e1, hm1003, ⟨hi, htg, hrv, hbv, hmv⟩, hr1003_9, hr1003_14, hA1003, hS1003⟩
      obtain ⟨rr, rfl⟩ := agrBack hA1003
      clear hA1003
      obtain ⟨rr, rfl⟩ := back2 (r := rr) hr1003_9 hr1003_14
      clear hr1003_9 hr1003_14
      refine WR.seq ?_
      refine WR.seq ?_
      refine WR.region rfl ?_
      refine S.moveT rfl ?_
      refine S.moveT rfl ?_
      refine S.lenSl Try.underlying24 rfl rfl ?_
      refine S.lss rfl rfl rfl ?_
      refine WS.done ?_
      refine WR.condD rfl (fun c55 => ?_) (fun c55 => ?_)
      ·
        skip
        refine WR.skip ?_
        refine WR.seq ?_
        refine WR.block ?_
        refine WR.seq ?_
        refine WR.region rfl ?_
        refine S.moveT rfl ?_
        refine S.call ent26 rfl (c_rText hS1003 (by exact hrv) (by exact hbv) (by exact hmv) (by decide)) rfl ?_
        rintro _ w59 ⟨vs59, rfl, hro59, hS59⟩
        clear hS1003
        refine S.assignT rfl ?_
        refine WS.done ?_
        refine WR.region rfl ?_
        refine S.moveT rfl ?_
        refine S.moveT rfl ?_
        refine S.splitB (d := 61) rfl (fun c61 => ?_) (fun c61 => ?_)
        ·
          skip
          refine S.moveT rfl ?_
          refine S.moveT rfl ?_
          refine S.moveT rfl ?_
          refine S.indexRo hc Try.underlying24 ti9 rfl rfl (by omega) rfl ?_
          intro ad65 u65 hu65 hl65 hc65
          refine S.loadRo hS59 hc65 rfl Try.underlying9 rfl rfl rfl ?_
          refine S.eqlStr rfl rfl rfl ?_
          refine S.pickT rfl rfl ?_
          refine S.assignT rfl ?_
          refine WS.done ?_
          refine WR.region rfl ?_
          refine S.moveT rfl ?_
          first
            | refine S.addN rfl rfl rfl (by omega) ?_
            | refine S.add rfl rfl rfl ?_
          refine S.assignT rfl ?_
          refine WS.done ?_
          exact ⟨_, (by omega), ⟨i + 1, _, _, _, _, rfl, (by exact ⟨by omega, by first | exact (tG_succ (getI hu65) htg).trans (by rw [c61]; rfl) | exact (tG_succ (List.getElem?_eq_getElem (by omega)) htg).trans (by rw [c61]; rfl), hro59, fun x hx => hbv x ((rdT_sub (xs := ys) (e := e1) (m := 300)).1 x hx), Nat.le_trans (rdT_sub (xs := ys) (e := e1) (m := 300)).2 hmv⟩), rfl, rfl, ⟨rfl, rfl, trivial⟩, hS59⟩⟩
        ·
          skip
          refine S.off rfl ?_
          refine S.off rfl ?_
          refine S.off rfl ?_
          refine S.off rfl ?_
          refine S.off rfl ?_
          refine S.off rfl ?_
          refine S.pickFC rfl rfl ?_
          refine S.assignT rfl ?_
          refine WS.done ?_
          refine WR.region rfl ?_
          refine S.moveT rfl ?_
          first
            | refine S.addN rfl rfl rfl (by omega) ?_
            | refine S.add rfl rfl rfl ?_
          refine S.assignT rfl ?_
          refine WS.done ?_
          exact ⟨_, (by omega), ⟨i + 1, _, _, _, _, rfl, (by exact ⟨by omega, by first | exact (tG_succ (getI hu65) htg).trans (by rw [c61]; rfl) | exact (tG_succ (List.getElem?_eq_getElem (by omega)) htg).trans (by rw [c61]; rfl), hro59, fun x hx => hbv x ((rdT_sub (xs := ys) (e := e1) (m := 300)).1 x hx), Nat.le_trans (rdT_sub (xs := ys) (e := e1) (m := 300)).2 hmv⟩), rfl, rfl, ⟨rfl, rfl, trivial⟩, hS59⟩⟩
      ·
        skip
        refine WR.exit ?_
        refine WR.seq ?_
        refine WR.region rfl ?_
        rw [List.take_of_length_le (by omega)] at htg
        have htA : tA us bs cs (true, xs, e) = (ok, ys, e1) := htg
        have hE := rdE_cases ys e1
        refine S.moveT rfl ?_
        refine S.call ent24 rfl (c_rEnd hS1003 (by exact hrv) (by exact hbv) (by exact hmv)) rfl ?_
        rintro _ w70 ⟨rfl, hS70⟩
        clear hS1003
        refine S.eql rfl rfl rfl ?_
        refine S.moveT rfl ?_
        refine S.splitD (d := 72) rfl (fun c72 => ?_) (fun c72 => ?_)
        ·
          skip
          refine S.moveT rfl ?_
          refine S.pickT rfl rfl ?_
          refine S.moveT rfl ?_
          refine S.splitB (d := 75) rfl (fun c75 => ?_) (fun c75 => ?_)
          ·
            skip
            refine S.moveT rfl ?_
            refine S.call ent27 rfl (c_left hS70 (by exact hrv)) rfl ?_
            rintro _ w77 ⟨rfl, hS77⟩
            clear hS70
            refine S.eql rfl rfl rfl ?_
            refine S.pickT rfl rfl ?_
            refine S.assignT rfl ?_
            refine WS.done ?_
            refine WR.ret (ret1 rfl rfl ?_)
            rw [htA]
            refine ⟨_, congrArg Value.bool ?_, hS77⟩
            show _ = decide (e1 = 0 ∧ ys.length = 0 ∧ ok = true)
            first | exact decide_eq_decide.2 ⟨fun h => ⟨by omega, by omega, c75⟩, fun h => by omega⟩ | exact (decide_eq_false (fun h => by omega)).symm | exact (decide_eq_false (fun h => by rw [h.2.2] at c75; cases c75)).symm
          ·
            skip
            refine S.off rfl ?_
            refine S.off rfl ?_
            refine S.off rfl ?_
            refine S.pickFC rfl rfl ?_
            refine S.assignT rfl ?_
            refine WS.done ?_
            refine WR.ret (ret1 rfl rfl ?_)
            rw [htA]
            refine ⟨_, congrArg Value.bool ?_, hS70⟩
            show _ = decide (e1 = 0 ∧ ys.length = 0 ∧ ok = true)
            first | exact decide_eq_decide.2 ⟨fun h => ⟨by omega, by omega, c75⟩, fun h => by omega⟩ | exact (decide_eq_false (fun h => by omega)).symm | exact (decide_eq_false (fun h => by rw [h.2.2] at c75; cases c75)).symm
        ·
          skip
          refine S.off rfl ?_
          refine S.pickFC rfl rfl ?_
          refine S.moveT rfl ?_
          refine S.off rfl ?_
          refine S.off rfl ?_
          refine S.off rfl ?_
          refine S.pickFC rfl rfl ?_
          refine S.assignT rfl ?_
          refine WS.done ?_
          refine WR.ret (ret1 rfl rfl ?_)
          rw [htA]
          refine ⟨_, congrArg Value.bool ?_, hS70⟩
          show _ = decide (e1 = 0 ∧ ys.length = 0 ∧ ok = true)
          first | exact decide_eq_decide.2 ⟨fun h => ⟨by omega, by omega, c75⟩, fun h => by omega⟩ | exact (decide_eq_false (fun h => by omega)).symm | exact (decide_eq_false (fun h => by rw [h.2.2] at c75; cases c75)).symm


end Go.Proofs.Ytfajmfdoemjacaa.B

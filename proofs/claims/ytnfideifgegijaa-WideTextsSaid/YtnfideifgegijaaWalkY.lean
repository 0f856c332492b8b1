import Derived.Test.YtnfideifgegijaaWalkX
namespace Go.Proofs.Ytnfideifgegijaa.B
open Go.Proofs Go.RowKit
set_option linter.unusedVariables false
set_option linter.unusedSimpArgs false
theorem wrap_fits (x : Int) : fits (IntKind.i64.wrap x) := by rw [wrap_i64m]; unfold fits; omega
set_option maxRecDepth 100000 in
set_option maxHeartbeats 4000000 in
theorem sp_has {w : World} {R : Kn} {L : List HP}  (hS : St w R (L)) {s : ByteArray} (hs : s.size ≤ 1000000) :
    Fn Try.prog 63 #[.string s, .string ⟨#[45]⟩] w (fun v w' => v = .bool (decide ((sB s).head? = some 45)) ∧ St w' R L) := by
  have hs1 : (⟨#[45]⟩ : ByteArray).size = 1 := rfl
  refine Fn.intro (n := 18) Try.func63 rfl rfl rfl ?_
  refine WR.seq ?_
  refine WR.region rfl ?_
  refine S.assignC rfl ?_
  refine WS.done ?_
  refine WR.seq ?_
  refine WR.region rfl ?_
  refine S.moveT rfl ?_
  refine S.lenStr Try.underlying9 rfl rfl ?_
  refine S.moveT rfl ?_
  refine S.lenStr Try.underlying9 rfl rfl ?_
  refine S.geq rfl rfl rfl ?_
  refine S.moveT rfl ?_
  refine S.splitD (d := 10) rfl (fun c10 => ?_) (fun c10 => ?_)
  ·
    skip
    refine S.moveT rfl ?_
    refine S.moveT rfl ?_
    refine S.lenStr Try.underlying9 rfl rfl ?_
    refine S.strHi Try.underlying9 rfl rfl (by omega) rfl ?_
    refine S.moveT rfl ?_
    refine S.eqlStr rfl rfl rfl ?_
    refine S.pickT rfl rfl ?_
    refine S.assignT rfl ?_
    refine WS.done ?_
    refine WR.ret (ret1 rfl rfl ?_)
    first | exact ⟨congrArg Value.bool (decide_eq_decide.2 (pre_iff (by omega))), hS⟩ | exact ⟨congrArg Value.bool (decide_eq_false (head_nil (by omega))).symm, hS⟩
  ·
    skip
    refine S.off rfl ?_
    refine S.off rfl ?_
    refine S.off rfl ?_
    refine S.off rfl ?_
    refine S.off rfl ?_
    refine S.off rfl ?_
    refine S.pickFC rfl rfl ?_
    refine S.assignT rfl ?_
    refine WS.done ?_
    refine WR.ret (ret1 rfl rfl ?_)
    first | exact ⟨congrArg Value.bool (decide_eq_decide.2 (pre_iff (by omega))), hS⟩ | exact ⟨congrArg Value.bool (decide_eq_false (head_nil (by omega))).symm, hS⟩

set_option maxRecDepth 100000 in
set_option maxHeartbeats 4000000 in
theorem sp_cut {w : World} {R : Kn} {L : List HP}  (hS : St w R (L)) {s : ByteArray} (hs : s.size ≤ 1000000) :
    Fn Try.prog 61 #[.string s, .string ⟨#[45]⟩] w (fun v w' => ∃ t b, v = .tuple #[.string t, .bool b] ∧ Cutd s t b ∧ St w' R L) := by
  have hs1 : (⟨#[45]⟩ : ByteArray).size = 1 := rfl
  refine Fn.intro (n := 15) Try.func61 rfl rfl rfl ?_
  refine WR.seq ?_
  refine WR.region rfl ?_
  refine S.assignC rfl ?_
  refine S.assignC rfl ?_
  refine WS.done ?_
  refine WR.seq ?_
  refine WR.seq ?_
  refine WR.region rfl ?_
  refine S.moveT rfl ?_
  refine S.moveT rfl ?_
  refine S.call ent63 rfl (sp_has hS (by omega)) rfl ?_
  rintro _ w8 ⟨rfl, hS8⟩
  clear hS
  refine S.notD rfl rfl ?_
  refine WS.done ?_
  refine WR.condD rfl (fun c9 => ?_) (fun c9 => ?_)
  ·
    skip
    refine WR.seq ?_
    refine WR.region rfl ?_
    refine S.moveT rfl ?_
    refine S.assignT rfl ?_
    refine S.assignC rfl ?_
    refine WS.done ?_
    refine WR.ret (ret2 rfl rfl rfl ?_)
    exact ⟨_, _, rfl, .inr ⟨rfl, c9, rfl⟩, hS8⟩
  ·
    skip
    refine WR.skip ?_
    refine WR.seq ?_
    refine WR.region rfl ?_
    have hh : (sB s).head? = some 45 := Decidable.not_not.1 c9
    have hsz : 1 ≤ s.size := Decidable.byContradiction fun h => head_nil h hh
    refine S.moveT rfl ?_
    refine S.moveT rfl ?_
    refine S.lenStr Try.underlying9 rfl rfl ?_
    refine S.strLo Try.underlying9 rfl rfl (by omega) rfl ?_
    refine S.assignT rfl ?_
    refine S.assignC rfl ?_
    refine WS.done ?_
    refine WR.ret (ret2 rfl rfl rfl ?_)
    exact ⟨_, _, rfl, .inl ⟨rfl, head_cons hh⟩, hS8⟩

set_option maxRecDepth 100000 in
set_option maxHeartbeats 4000000 in
theorem st_cut {w : World} {R : Kn} {L : List HP}  (hS : St w R (L)) {s : ByteArray} (hs : s.size ≤ 1000000) :
    Fn Try.prog 52 #[.string s, .string ⟨#[45]⟩] w (fun v w' => ∃ t b, v = .tuple #[.string t, .bool b] ∧ Cutd s t b ∧ St w' R L) := by
  refine Fn.intro (n := 11) Try.func52 rfl rfl rfl ?_
  refine WR.seq ?_
  refine WR.region rfl ?_
  refine S.assignC rfl ?_
  refine S.assignC rfl ?_
  refine WS.done ?_
  refine WR.seq ?_
  refine WR.region rfl ?_
  refine S.moveT rfl ?_
  refine S.moveT rfl ?_
  refine S.call ent61 rfl (sp_cut hS (by omega)) rfl ?_
  rintro _ w8 ⟨t8, b8, rfl, hC8, hS8⟩
  clear hS
  refine S.extract rfl rfl rfl ?_
  refine S.extract rfl rfl rfl ?_
  refine S.assignT rfl ?_
  refine S.assignT rfl ?_
  refine WS.done ?_
  refine WR.ret (ret2 rfl rfl rfl ?_)
  exact ⟨_, _, rfl, hC8, hS8⟩

set_option maxRecDepth 100000 in
set_option maxHeartbeats 4000000 in
theorem w_parse {w : World} {R : Kn} {L : List HP}  (hS : St w R (L)) {s : ByteArray} (hs : s.size ≤ 1000000) :
    Fn Try.prog 27 #[.string s] w (fun v w' => ∃ h l b, v = .tuple #[.agg #[.int .i64 (h), .int .u64 (l)], .bool b] ∧ (fits h ∧ (0 ≤ l ∧ l < 18446744073709551616)) ∧ ((b = true ∧ prs (sB s) = some (h * 18446744073709551616 + l)) ∨ (b = false ∧ prs (sB s) = none ∧ h = 0 ∧ l = 0)) ∧ St w' R L) := by
  refine Fn.intro (n := 66) Try.func27 rfl rfl rfl ?_
  refine WR.seq ?_
  refine WR.region rfl ?_
  refine S.alloc hS ti24 rfl rfl ?_
  intro b2 w2 hS2; clear hS
  refine S.assignC rfl ?_
  refine WS.done ?_
  refine WR.seq ?_
  refine WR.region rfl ?_
  refine S.moveT rfl ?_
  refine S.call ent52 rfl (st_cut hS2 (by omega)) rfl ?_
  rintro _ w13 ⟨t13, b13, rfl, hC13, hS13⟩
  clear hS2
  have hts := hC13.size
  have htl := sB_len t13
  refine S.moveT rfl ?_
  refine S.extract rfl rfl rfl ?_
  refine S.extract rfl rfl rfl ?_
  refine S.assignT rfl ?_
  refine S.assignT rfl ?_
  refine WS.done ?_
  refine WR.seq ?_
  refine WR.seq ?_
  refine WR.region rfl ?_
  refine S.moveT rfl ?_
  refine S.eqlStr rfl rfl rfl ?_
  refine S.moveT rfl ?_
  refine S.splitD (d := 18) rfl (fun c18 => ?_) (fun c18 => ?_)
  ·
    skip
    refine S.off rfl ?_
    refine S.off rfl ?_
    refine S.off rfl ?_
    refine S.pickTC rfl rfl ?_
    refine WS.done ?_
    refine WR.condT rfl ?_
    refine WR.seq ?_
    refine WR.region rfl ?_
    refine S.buildZero ti24 rfl (by kernel_rfl) rfl ?_
    refine S.storeB (i := 0) hS13 rfl ti24 rfl rfl rfl rfl rfl rfl rfl rfl ?_
    intro w2001 hS2001; clear hS13
    refine S.assignC rfl ?_
    refine WS.done ?_
    refine WR.ret (retC1 rfl rfl (run_loadBA (i := 0) hS2001 rfl Try.underlying24 rfl ti24 rfl rfl) rfl ?_)
    exact ⟨0, 0, false, rfl, ⟨by decide, by decide⟩, .inr ⟨rfl, by rw [hC13.prs]; exact prsB_bad (okd_nil c18), rfl, rfl⟩, hS2001.drop⟩
  ·
    skip
    refine S.moveT rfl ?_
    refine S.lenStr Try.underlying9 rfl rfl ?_
    refine S.gtr rfl rfl rfl ?_
    refine S.pickF rfl rfl ?_
    refine WS.done ?_
    refine WR.condD rfl (fun c22 => ?_) (fun c22 => ?_)
    ·
      skip
      refine WR.seq ?_
      refine WR.region rfl ?_
      refine S.buildZero ti24 rfl (by kernel_rfl) rfl ?_
      refine S.storeB (i := 0) hS13 rfl ti24 rfl rfl rfl rfl rfl rfl rfl rfl ?_
      intro w2002 hS2002; clear hS13
      refine S.assignC rfl ?_
      refine WS.done ?_
      refine WR.ret (retC1 rfl rfl (run_loadBA (i := 0) hS2002 rfl Try.underlying24 rfl ti24 rfl rfl) rfl ?_)
      exact ⟨0, 0, false, rfl, ⟨by decide, by decide⟩, .inr ⟨rfl, by rw [hC13.prs]; exact prsB_bad (okd_long c22), rfl, rfl⟩, hS2002.drop⟩
    ·
      skip
      refine WR.skip ?_
      refine WR.seq ?_
      refine WR.region rfl ?_
      refine S.alloc hS13 ti24 rfl rfl ?_
      intro b6 w6 hS6; clear hS13
      refine WS.done ?_
      refine WR.seq ?_
      refine WR.seq ?_
      refine WR.region rfl ?_
      refine S.moveT rfl ?_
      refine S.lenStr Try.underlying9 rfl rfl ?_
      refine S.moveC rfl ?_
      refine WS.done ?_
      refine WR.block ?_
      refine WR.loopE (fun rq mm rr wr => ∃ (i : Nat), mm = t13.size - i ∧ (i ≤ t13.size ∧ digits ((sB t13).take i)) ∧ rr 26 = .int .i64 (i : Int) ∧ Agr [0, 2, 4, 5, 6, 25] rr rq ∧ St wr R (blk b6 (.cells (#[.int .i64 (wh (pv ((sB t13).take i))), .int .u64 (wl (pv ((sB t13).take i)))]) 24 (0, 0)) :: blk b2 (.cells (#[.int .i64 0, .int .u64 0]) 24 (0, 0)) :: L)) ⟨0, rfl, (by exact ⟨by omega, fun x h => by simp at h⟩), rfl, ⟨rfl, rfl, rfl, rfl, rfl, rfl, trivial⟩, hS6⟩ ?_
      rintro mm rr w1001 ⟨i, hm1001, ⟨hi, hdg⟩, hr1001_26, hA1001, hS1001⟩
      obtain ⟨rr, rfl⟩ := agrBack hA1001
      clear hA1001
      obtain ⟨rr, rfl⟩ := back1 (r := rr) hr1001_26
      clear hr1001_26
      refine WR.seq ?_
      refine WR.region rfl ?_
      refine S.lss rfl rfl rfl ?_
      refine WS.done ?_
      refine WR.seq ?_
      refine WR.condD rfl (fun c27 => ?_) (fun c27 => ?_)
      ·
        skip
        refine WR.skip ?_
        refine WR.seq ?_
        refine WR.block ?_
        refine WR.seq ?_
        refine WR.region rfl ?_
        refine S.moveT rfl ?_
        refine S.assignT rfl ?_
        refine WS.done ?_
        refine WR.seq ?_
        obtain ⟨u, hu⟩ : ∃ u, (sB t13)[i]? = some u := ⟨_, List.getElem?_eq_getElem (by omega)⟩
        have hui : (sB t13)[((i : Int)).toNat]? = some u := by rw [show ((i : Int)).toNat = i by omega]; exact hu
        have hub := sB_byte t13 u (List.mem_of_getElem? hu)
        have hrg := w_range (pv ((sB t13).take i))
        refine WR.region rfl ?_
        refine S.moveT rfl ?_
        refine S.moveT rfl ?_
        refine S.indexB Try.underlying9 rfl rfl (by omega) hui rfl ?_
        refine S.sub rfl rfl rfl ?_
        refine S.as (d := 32) rfl (congrArg (Value.int .u8) (wrap_u8m _)) ?_
        refine S.assignT rfl ?_
        refine WS.done ?_
        refine WR.seq ?_
        refine WR.seq ?_
        refine WR.region rfl ?_
        refine S.moveT rfl ?_
        refine S.gtr rfl rfl rfl ?_
        refine WS.done ?_
        refine WR.condD rfl (fun c34 => ?_) (fun c34 => ?_)
        ·
          skip
          refine WR.seq ?_
          refine WR.region rfl ?_
          refine S.buildZero ti24 rfl (by kernel_rfl) rfl ?_
          refine S.storeB (i := 1) hS1001 rfl ti24 rfl rfl rfl rfl rfl rfl rfl rfl ?_
          intro w2003 hS2003; clear hS1001
          refine S.assignC rfl ?_
          refine WS.done ?_
          refine WR.ret (retC1 rfl rfl (run_loadBA (i := 1) hS2003 rfl Try.underlying24 rfl ti24 rfl rfl) rfl ?_)
          exact ⟨0, 0, false, rfl, ⟨by decide, by decide⟩, .inr ⟨rfl, by rw [hC13.prs]; exact prsB_bad (okd_bad hu (by omega)), rfl, rfl⟩, hS2003.drop.drop⟩
        ·
          skip
          refine WR.skip ?_
          refine WR.seq ?_
          refine WR.region rfl ?_
          refine S.fieldB Try.underlying24 rfl ti22 rfl rfl rfl rfl ?_
          refine S.loadB (i := 0) hS1001 rfl Try.underlying22 rfl rfl rfl rfl ?_
          refine S.call ent47 rfl (s_mul64 hS1001 (by exact hrg.2) (by decide)) rfl ?_
          rintro _ w39 ⟨rfl, hS39⟩
          clear hS1001
          refine S.moveT rfl ?_
          refine S.extract rfl rfl rfl ?_
          refine S.extract rfl rfl rfl ?_
          refine S.assignT rfl ?_
          refine S.assignT rfl ?_
          refine WS.done ?_
          have hud : 48 ≤ u ∧ u ≤ 57 := by omega
          have hrd := w_range (u - 48)
          refine WR.regionW (fun j => Nat.beq j 12) 13 rfl mixed hS39 ?_
          intro w6004 hS6004; clear hS39; have hC := hS6004
          refine WA.take (fuel := 12) 0 rfl (by kernel_rfl) (by kernel_rfl) (by kernel_rfl) (by kernel_rfl) rfl rfl hC ?_
          refine Q.fieldB Try.underlying24 rfl ti2 rfl rfl rfl rfl ?_
          refine WQ.done ?_
          refine WA.take (fuel := 11) 1 rfl (by kernel_rfl) (by kernel_rfl) (by kernel_rfl) (by kernel_rfl) rfl rfl hC ?_
          refine Q.loadB (i := 0) rfl Try.underlying2 rfl rfl rfl rfl ?_
          refine WQ.done ?_
          refine WA.take (fuel := 10) 2 rfl (by kernel_rfl) (by kernel_rfl) (by kernel_rfl) (by kernel_rfl) rfl rfl hC ?_
          refine Q.mul rfl rfl rfl ?_
          refine WQ.done ?_
          refine WA.take (fuel := 9) 3 rfl (by kernel_rfl) (by kernel_rfl) (by kernel_rfl) (by kernel_rfl) rfl rfl hC ?_
          refine Q.moveT rfl ?_
          refine WQ.done ?_
          refine WA.take (fuel := 8) 4 rfl (by kernel_rfl) (by kernel_rfl) (by kernel_rfl) (by kernel_rfl) rfl rfl hC ?_
          first
            | refine Q.convN Try.underlying22 Try.underlying2 rfl rfl (wrap_i64 (by omega) (by omega)) ?_
            | refine Q.conv Try.underlying22 Try.underlying2 rfl rfl ?_
          refine WQ.done ?_
          refine WA.take (fuel := 7) 5 rfl (by kernel_rfl) (by kernel_rfl) (by kernel_rfl) (by kernel_rfl) rfl rfl hC ?_
          refine Q.add rfl rfl rfl ?_
          refine WQ.done ?_
          refine WA.take (fuel := 6) 6 rfl (by kernel_rfl) (by kernel_rfl) (by kernel_rfl) (by kernel_rfl) rfl rfl hC ?_
          refine Q.moveT rfl ?_
          refine WQ.done ?_
          refine WA.take (fuel := 5) 8 rfl (by kernel_rfl) (by kernel_rfl) (by kernel_rfl) (by kernel_rfl) rfl rfl hC ?_
          refine Q.moveT rfl ?_
          refine WQ.done ?_
          refine WA.take (fuel := 4) 9 rfl (by kernel_rfl) (by kernel_rfl) (by kernel_rfl) (by kernel_rfl) rfl rfl hC ?_
          first
            | refine Q.convN Try.underlying5 Try.underlying2 rfl rfl (wrap_i64 (by omega) (by omega)) ?_
            | refine Q.conv Try.underlying5 Try.underlying2 rfl rfl ?_
          refine Q.as (d := 51) rfl (congrArg (Value.int .i64) (show (u - 48) % 256 = u - 48 by omega)) ?_
          refine WQ.done ?_
          refine WA.two (fuel := 3) 7 10 rfl rfl (by kernel_rfl) rfl ?_ ?_
          ·
            skip
            refine S.buildStruct [.int _ _, .int _ _] [(0, 1), (1, 1)] Try.underlying24 ti24 rfl (by kernel_rfl) rfl rfl rfl rfl rfl rfl ?_
            refine WS.done ⟨fun _ => hS6004, ?_⟩
            replace hC := hS6004
            refine WA.one (fuel := 2) 10 rfl (by kernel_rfl) rfl ?_
            refine S.call ent21 rfl (w_of hS6004 (by unfold fits; omega)) rfl ?_
            rintro _ w52 ⟨rfl, hS52⟩
            clear hS6004
            refine WS.done ⟨fun _ => hS52, ?_⟩
            replace hC := hS52
            refine WA.one (fuel := 1) 11 rfl (by kernel_rfl) rfl ?_
            refine S.call ent48 rfl (w_around hS52 (by exact wrap_fits _) (by omega) (by exact w_fits _) (by exact hrd.2) (by decide)) rfl ?_
            rintro _ w53 ⟨rfl, hS53⟩
            clear hS52
            refine WS.done ⟨fun _ => hS53, ?_⟩
            replace hC := hS53
            refine WA.one (fuel := 0) 12 rfl (by kernel_rfl) rfl ?_
            refine S.storeB (i := 0) hS53 rfl ti24 rfl rfl rfl rfl rfl rfl rfl rfl ?_
            intro w2005 hS2005; clear hS53
            refine WS.done ⟨fun h => absurd h (by decide), ?_⟩
            refine WA.done (by kernel_rfl) ?_
            clear hC
            refine WR.region rfl ?_
            first
              | refine S.addN rfl rfl rfl (by omega) ?_
              | refine S.add rfl rfl rfl ?_
            refine S.moveT rfl ?_
            refine WS.done ?_
            exact ⟨_, (by omega), ⟨i + 1, rfl, (by exact ⟨by omega, dig_succ hdg hu hud⟩), rfl, ⟨rfl, rfl, rfl, rfl, rfl, rfl, trivial⟩, (by have hst := parse_step (p := (pv ((sB t13).take i))) (d := u - 48) (by omega) rfl; rw [pv_succ hu, ← hst.1, ← hst.2]; exact hS2005)⟩⟩
          ·
            skip
            refine S.call ent21 rfl (w_of hS6004 (by unfold fits; omega)) rfl ?_
            rintro _ w52 ⟨rfl, hS52⟩
            clear hS6004
            refine WS.done ⟨fun _ => hS52, ?_⟩
            replace hC := hS52
            refine WA.one (fuel := 2) 7 rfl (by kernel_rfl) rfl ?_
            refine S.buildStruct [.int _ _, .int _ _] [(0, 1), (1, 1)] Try.underlying24 ti24 rfl (by kernel_rfl) rfl rfl rfl rfl rfl rfl ?_
            refine WS.done ⟨fun _ => hS52, ?_⟩
            replace hC := hS52
            refine WA.one (fuel := 1) 11 rfl (by kernel_rfl) rfl ?_
            refine S.call ent48 rfl (w_around hS52 (by exact wrap_fits _) (by omega) (by exact w_fits _) (by exact hrd.2) (by decide)) rfl ?_
            rintro _ w53 ⟨rfl, hS53⟩
            clear hS52
            refine WS.done ⟨fun _ => hS53, ?_⟩
            replace hC := hS53
            refine WA.one (fuel := 0) 12 rfl (by kernel_rfl) rfl ?_
            refine S.storeB (i := 0) hS53 rfl ti24 rfl rfl rfl rfl rfl rfl rfl rfl ?_
            intro w2006 hS2006; clear hS53
            refine WS.done ⟨fun h => absurd h (by decide), ?_⟩
            refine WA.done (by kernel_rfl) ?_
            clear hC
            refine WR.region rfl ?_
            first
              | refine S.addN rfl rfl rfl (by omega) ?_
              | refine S.add rfl rfl rfl ?_
            refine S.moveT rfl ?_
            refine WS.done ?_
            exact ⟨_, (by omega), ⟨i + 1, rfl, (by exact ⟨by omega, dig_succ hdg hu hud⟩), rfl, ⟨rfl, rfl, rfl, rfl, rfl, rfl, trivial⟩, (by have hst := parse_step (p := (pv ((sB t13).take i))) (d := u - 48) (by omega) rfl; rw [pv_succ hu, ← hst.1, ← hst.2]; exact hS2006)⟩⟩
      ·
        skip
        refine WR.exit ?_
        refine WR.seq ?_
        refine WR.seq ?_
        refine WR.region rfl ?_
        refine S.moveT rfl ?_
        refine WS.done ?_
        refine WR.cond rfl (fun c55 => ?_) (fun c55 => ?_)
        ·
          skip
          have hrp := w_range (pv ((sB t13).take i))
          refine WR.region rfl ?_
          refine S.loadBA (i := 0) hS1001 rfl Try.underlying24 rfl ti24 rfl rfl rfl rfl ?_
          refine S.call ent36 rfl (w_turned hS1001 (by exact w_fits _) (by exact hrp.2)) rfl ?_
          rintro _ w57 ⟨rfl, hS57⟩
          clear hS1001
          refine S.buildZero ti24 rfl (by kernel_rfl) rfl ?_
          refine S.call ent48 rfl (w_around hS57 (by unfold fits; omega) (by omega) (by decide) (by decide) (by decide)) rfl ?_
          rintro _ w59 ⟨rfl, hS59⟩
          clear hS57
          refine S.storeB (i := 0) hS59 rfl ti24 rfl rfl rfl rfl rfl rfl rfl rfl ?_
          intro w2007 hS2007; clear hS59
          refine WS.done ?_
          refine WR.seq ?_
          refine WR.seq ?_
          refine WR.region rfl ?_
          refine S.loadBA (i := 0) hS2007 rfl Try.underlying24 rfl ti24 rfl rfl rfl rfl ?_
          refine S.call ent26 rfl (w_text hS2007 (by exact w_fits _) (by exact (w_range _).2)) rfl ?_
          rintro _ w61 ⟨rfl, hS61⟩
          clear hS2007
          refine S.moveT rfl ?_
          refine S.neqStr rfl rfl rfl ?_
          refine WS.done ?_
          refine WR.condD rfl (fun c63 => ?_) (fun c63 => ?_)
          ·
            skip
            refine WR.seq ?_
            refine WR.region rfl ?_
            refine S.buildZero ti24 rfl (by kernel_rfl) rfl ?_
            refine S.storeB (i := 1) hS61 rfl ti24 rfl rfl rfl rfl rfl rfl rfl rfl ?_
            intro w2008 hS2008; clear hS61
            refine S.assignC rfl ?_
            refine WS.done ?_
            refine WR.ret (retC1 rfl rfl (run_loadBA (i := 1) hS2008 rfl Try.underlying24 rfl ti24 rfl rfl) rfl ?_)
            have hkd := okd_of c18 c22 hdg (by omega)
            have hpe : pv ((sB t13).take i) = pv (sB t13) := by rw [List.take_of_length_le (by omega)]
            first | exact ⟨0, 0, false, rfl, ⟨by decide, by decide⟩, .inr ⟨rfl, by rw [hC13.prs]; refine prsB_no (fun k => c63 ?_); rw [bS_eq (txt_byte _), ← k, c55]; simp only [if_true, Bool.false_eq_true, if_false]; rw [← hpe]; first | rfl | (unfold wn; rw [neg_step.1, neg_step.2]), rfl, rfl⟩, hS2008.drop.drop⟩ | exact ⟨_, _, true, rfl, ⟨w_fits _, (w_range _).2⟩, .inl ⟨rfl, by rw [hC13.prs]; have k := (bS_eq (txt_byte _)).1 (Decidable.not_not.1 c63); rw [prsB_ok hkd (by rw [← k, c55]; simp only [if_true, Bool.false_eq_true, if_false]; rw [← hpe]; first | rfl | (unfold wn; rw [neg_step.1, neg_step.2]))]; rw [c55]; simp only [if_true, Bool.false_eq_true, if_false]; rw [← hpe]; first | rfl | (unfold wn; rw [neg_step.1, neg_step.2])⟩, hS2008.drop.drop⟩
          ·
            skip
            refine WR.skip ?_
            refine WR.seq ?_
            refine WR.region rfl ?_
            refine S.loadBA (i := 0) hS61 rfl Try.underlying24 rfl ti24 rfl rfl rfl rfl ?_
            refine S.storeB (i := 1) hS61 rfl ti24 rfl rfl rfl rfl rfl rfl rfl rfl ?_
            intro w2009 hS2009; clear hS61
            refine S.assignC rfl ?_
            refine WS.done ?_
            refine WR.ret (retC1 rfl rfl (run_loadBA (i := 1) hS2009 rfl Try.underlying24 rfl ti24 rfl rfl) rfl ?_)
            have hkd := okd_of c18 c22 hdg (by omega)
            have hpe : pv ((sB t13).take i) = pv (sB t13) := by rw [List.take_of_length_le (by omega)]
            first | exact ⟨0, 0, false, rfl, ⟨by decide, by decide⟩, .inr ⟨rfl, by rw [hC13.prs]; refine prsB_no (fun k => c63 ?_); rw [bS_eq (txt_byte _), ← k, c55]; simp only [if_true, Bool.false_eq_true, if_false]; rw [← hpe]; first | rfl | (unfold wn; rw [neg_step.1, neg_step.2]), rfl, rfl⟩, hS2009.drop.drop⟩ | exact ⟨_, _, true, rfl, ⟨w_fits _, (w_range _).2⟩, .inl ⟨rfl, by rw [hC13.prs]; have k := (bS_eq (txt_byte _)).1 (Decidable.not_not.1 c63); rw [prsB_ok hkd (by rw [← k, c55]; simp only [if_true, Bool.false_eq_true, if_false]; rw [← hpe]; first | rfl | (unfold wn; rw [neg_step.1, neg_step.2]))]; rw [c55]; simp only [if_true, Bool.false_eq_true, if_false]; rw [← hpe]; first | rfl | (unfold wn; rw [neg_step.1, neg_step.2])⟩, hS2009.drop.drop⟩
        ·
          skip
          refine WR.skip ?_
          refine WR.seq ?_
          refine WR.seq ?_
          refine WR.region rfl ?_
          refine S.loadBA (i := 0) hS1001 rfl Try.underlying24 rfl ti24 rfl rfl rfl rfl ?_
          refine S.call ent26 rfl (w_text hS1001 (by exact w_fits _) (by exact (w_range _).2)) rfl ?_
          rintro _ w61 ⟨rfl, hS61⟩
          clear hS1001
          refine S.moveT rfl ?_
          refine S.neqStr rfl rfl rfl ?_
          refine WS.done ?_
          refine WR.condD rfl (fun c63 => ?_) (fun c63 => ?_)
          ·
            skip
            refine WR.seq ?_
            refine WR.region rfl ?_
            refine S.buildZero ti24 rfl (by kernel_rfl) rfl ?_
            refine S.storeB (i := 1) hS61 rfl ti24 rfl rfl rfl rfl rfl rfl rfl rfl ?_
            intro w2010 hS2010; clear hS61
            refine S.assignC rfl ?_
            refine WS.done ?_
            refine WR.ret (retC1 rfl rfl (run_loadBA (i := 1) hS2010 rfl Try.underlying24 rfl ti24 rfl rfl) rfl ?_)
            have hkd := okd_of c18 c22 hdg (by omega)
            have hpe : pv ((sB t13).take i) = pv (sB t13) := by rw [List.take_of_length_le (by omega)]
            first | exact ⟨0, 0, false, rfl, ⟨by decide, by decide⟩, .inr ⟨rfl, by rw [hC13.prs]; refine prsB_no (fun k => c63 ?_); rw [bS_eq (txt_byte _), ← k, c55]; simp only [if_true, Bool.false_eq_true, if_false]; rw [← hpe]; first | rfl | (unfold wn; rw [neg_step.1, neg_step.2]), rfl, rfl⟩, hS2010.drop.drop⟩ | exact ⟨_, _, true, rfl, ⟨w_fits _, (w_range _).2⟩, .inl ⟨rfl, by rw [hC13.prs]; have k := (bS_eq (txt_byte _)).1 (Decidable.not_not.1 c63); rw [prsB_ok hkd (by rw [← k, c55]; simp only [if_true, Bool.false_eq_true, if_false]; rw [← hpe]; first | rfl | (unfold wn; rw [neg_step.1, neg_step.2]))]; rw [c55]; simp only [if_true, Bool.false_eq_true, if_false]; rw [← hpe]; first | rfl | (unfold wn; rw [neg_step.1, neg_step.2])⟩, hS2010.drop.drop⟩
          ·
            skip
            refine WR.skip ?_
            refine WR.seq ?_
            refine WR.region rfl ?_
            refine S.loadBA (i := 0) hS61 rfl Try.underlying24 rfl ti24 rfl rfl rfl rfl ?_
            refine S.storeB (i := 1) hS61 rfl ti24 rfl rfl rfl rfl rfl rfl rfl rfl ?_
            intro w2011 hS2011; clear hS61
            refine S.assignC rfl ?_
            refine WS.done ?_
            refine WR.ret (retC1 rfl rfl (run_loadBA (i := 1) hS2011 rfl Try.underlying24 rfl ti24 rfl rfl) rfl ?_)
            have hkd := okd_of c18 c22 hdg (by omega)
            have hpe : pv ((sB t13).take i) = pv (sB t13) := by rw [List.take_of_length_le (by omega)]
            first | exact ⟨0, 0, false, rfl, ⟨by decide, by decide⟩, .inr ⟨rfl, by rw [hC13.prs]; refine prsB_no (fun k => c63 ?_); rw [bS_eq (txt_byte _), ← k, c55]; simp only [if_true, Bool.false_eq_true, if_false]; rw [← hpe]; first | rfl | (unfold wn; rw [neg_step.1, neg_step.2]), rfl, rfl⟩, hS2011.drop.drop⟩ | exact ⟨_, _, true, rfl, ⟨w_fits _, (w_range _).2⟩, .inl ⟨rfl, by rw [hC13.prs]; have k := (bS_eq (txt_byte _)).1 (Decidable.not_not.1 c63); rw [prsB_ok hkd (by rw [← k, c55]; simp only [if_true, Bool.false_eq_true, if_false]; rw [← hpe]; first | rfl | (unfold wn; rw [neg_step.1, neg_step.2]))]; rw [c55]; simp only [if_true, Bool.false_eq_true, if_false]; rw [← hpe]; first | rfl | (unfold wn; rw [neg_step.1, neg_step.2])⟩, hS2011.drop.drop⟩


end Go.Proofs.Ytnfideifgegijaa.B

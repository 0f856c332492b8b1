import Derived.Test.YtfajmfdoemjacaaWalkA
namespace Go.Proofs.Ytfajmfdoemjacaa.B
open Go.Proofs Go.RowKit
set_option linter.unusedVariables false
set_option linter.unusedSimpArgs false
theorem size_take {cs : List ByteArray} {i k : Nat} {u : ByteArray} (h : ∀ x ∈ cs.take i, x.size ≤ k) (hu : cs[i]? = some u) (hk : u.size ≤ k) : ∀ x ∈ cs.take (i + 1), x.size ≤ k := by
  intro x hx
  rw [List.take_add_one, hu] at hx
  rcases List.mem_append.1 hx with hx | hx
  · exact h x hx
  · simp at hx; subst hx; exact hk
set_option maxRecDepth 100000 in
set_option maxHeartbeats 4000000 in
theorem law_CodeWrites {w : World} {R : Kn} {L : List HP}  (hS : St w R (L)) {va vb vc : Value} {us bs : List Int} {cs : List ByteArray} (ha : Ro R (encI .u64) 1 va us) (hbb : Ro R (encI .i64) 1 vb bs) (hc : Ro R encS 1 vc cs) (hfa : okU us) (hfb : okI bs) (hma : us.length ≤ 140737488355328) (hmb : bs.length ≤ 140737488355328) (hmc : cs.length ≤ 140737488355328) :
    Fn Try.prog 3 #[va, vb, vc] w (fun v w' => v = .bool true ∧ St w' R L) := by
  obtain ⟨aa, ca, rfl, hla⟩ := ha.len
  obtain ⟨ab, cb, rfl, hlb⟩ := hbb.len
  obtain ⟨ac, cc, rfl, hlc⟩ := hc.len
  refine Fn.intro (n := 123) Try.func3 rfl rfl rfl ?_
  refine WR.seq ?_
  refine WR.region rfl ?_
  refine S.assignC rfl ?_
  refine WS.done ?_
  refine WR.seq ?_
  refine WR.seq ?_
  refine WR.region rfl ?_
  refine S.call ent7 rfl (l6_alive hS ) rfl ?_
  rintro _ w13 ⟨rfl, hS13⟩
  clear hS
  refine S.not rfl rfl ?_
  refine WS.done ?_
  refine WR.condF rfl ?_
  refine WR.skip ?_
  refine WR.seq ?_
  refine WR.seq ?_
  refine WR.region rfl ?_
  refine S.moveT rfl ?_
  refine S.lenSl Try.underlying22 rfl rfl ?_
  refine S.moveT rfl ?_
  refine S.lenSl Try.underlying23 rfl rfl ?_
  first
    | refine S.addN rfl rfl rfl (by omega) ?_
    | refine S.add rfl rfl rfl ?_
  refine S.moveT rfl ?_
  refine S.lenSl Try.underlying24 rfl rfl ?_
  first
    | refine S.addN rfl rfl rfl (by omega) ?_
    | refine S.add rfl rfl rfl ?_
  refine S.gtr rfl rfl rfl ?_
  refine WS.done ?_
  refine WR.condD rfl (fun c23 => ?_) (fun c23 => ?_)
  ·
    skip
    refine WR.seq ?_
    refine WR.region rfl ?_
    refine S.assignC rfl ?_
    refine WS.done ?_
    refine WR.ret (ret1 rfl rfl ?_)
    first | exact ⟨rfl, hS13⟩ | exact ⟨rfl, hS13.drop⟩ | exact ⟨rfl, hS13.drop.drop⟩ | exact ⟨rfl, hS13.drop.drop.drop⟩ | exact ⟨rfl, hS13.weak (hR108.trans (hR109.trans (hR113.trans (hR114.trans (hR119.trans hR120)))))⟩
  ·
    skip
    refine WR.skip ?_
    refine WR.seq ?_
    refine WR.region rfl ?_
    first
      | refine S.buildRow (vs := []) hS13 Try.underlying26 ti5 rfl rfl rfl rfl rfl rfl rfl ?_
      | refine S.buildRow hS13 Try.underlying26 ti5 rfl rfl rfl rfl rfl rfl rfl ?_
    intro b24 w24 hS24; clear hS13
    have hSo := hS24.ownRow (enc := encI .u8) (n := 1) [] rfl (fun _ h => by cases h) (by simp)
    refine S.assignT rfl ?_
    refine WS.done ?_
    refine WR.seq ?_
    refine WR.seq ?_
    refine WR.region rfl ?_
    refine S.assignC rfl ?_
    refine WS.done ?_
    refine WR.block ?_
    refine WR.loopE (fun rq mm rr wr => ∃ (i : Nat) (vx : Value), mm = us.length - i ∧ (i ≤ us.length) ∧ rr 7 = vx ∧ rr 8 = .int .i64 (i : Int) ∧ Agr [0, 1, 2] rr rq ∧ St wr R (Ow 5 (encI .u8) 1 vx (uB (us.take i)) :: L)) ⟨0, _, rfl, (by omega), rfl, rfl, ⟨rfl, rfl, rfl, trivial⟩, hSo⟩ ?_
    rintro mm rr w1001 ⟨i, vx, hm1001, hi, hr1001_7, hr1001_8, hA1001, hS1001⟩
    obtain ⟨rr, rfl⟩ := agrBack hA1001
    clear hA1001
    obtain ⟨rr, rfl⟩ := back2 (r := rr) hr1001_7 hr1001_8
    clear hr1001_7 hr1001_8
    refine WR.seq ?_
    refine WR.seq ?_
    refine WR.region rfl ?_
    refine S.moveT rfl ?_
    refine S.moveT rfl ?_
    refine S.lenSl Try.underlying22 rfl rfl ?_
    refine S.lss rfl rfl rfl ?_
    refine WS.done ?_
    refine WR.condD rfl (fun c28 => ?_) (fun c28 => ?_)
    ·
      skip
      refine WR.skip ?_
      refine WR.seq ?_
      refine WR.block ?_
      refine WR.seq ?_
      refine WR.region rfl ?_
      refine S.moveT rfl ?_
      refine S.moveT rfl ?_
      refine S.moveT rfl ?_
      refine S.indexRo ha Try.underlying22 ti28 rfl rfl (by omega) rfl ?_
      intro ad34 u34 hu34 hl34 hc34
      refine S.loadRo hS1001 hc34 rfl Try.underlying28 rfl rfl rfl ?_
      have hu := hfa u34 (List.mem_of_getElem? hu34)
      obtain ⟨n34, rfl⟩ := Int.eq_ofNat_of_zero_le hu.1
      have hux := uB_len hfa i
      rw [List.length_take] at hux
      have hu10 := ub_len10 (n := n34) (by omega)
      refine S.call ent8 rfl (r6_uint hS1001 (by omega)) rfl ?_
      rintro v36 w36 hS36
      clear hS1001
      refine S.appendOO (i := 0) hS36 rfl Try.underlying26 ti5 rfl rfl rfl rfl encI_one (by omega) rfl ?_
      intro v37 w37 hS37; clear hS36
      refine S.assignT rfl ?_
      refine WS.done ?_
      refine WR.seq ?_
      refine WR.regionQ mixed hS37 (by kernel_rfl) rfl ?_
      refine Q.moveT rfl ?_
      refine Q.moveT rfl ?_
      refine Q.indexRo ha Try.underlying22 ti28 rfl rfl (by omega) rfl ?_
      intro ad40 u40 hu40 hl40 hc40
      refine Q.loadRo hc40 rfl Try.underlying28 rfl rfl rfl ?_
      refine Q.call ent9 rfl (fun w hQ => c_unturn hQ (by exact hfa u40 (List.mem_of_getElem? hu40))) rfl ?_
      refine Q.moveT rfl ?_
      refine Q.moveT rfl ?_
      refine Q.indexRo ha Try.underlying22 ti28 rfl rfl (by omega) rfl ?_
      intro ad45 u45 hu45 hl45 hc45
      refine Q.loadRo hc45 rfl Try.underlying28 rfl rfl rfl ?_
      refine Q.call ent10 rfl (fun w hQ => r6_unturn hQ (by exact hfa u45 (List.mem_of_getElem? hu45))) rfl ?_
      refine Q.neq rfl rfl rfl ?_
      refine Q.isFD (d := 48) rfl (by rw [Option.some.inj (hu40.symm.trans hu45)]; exact fun h => h rfl) ?_
      refine Q.moveT rfl ?_
      refine Q.moveT rfl ?_
      refine Q.moveT rfl ?_
      refine Q.indexRo ha Try.underlying22 ti28 rfl rfl (by omega) rfl ?_
      intro ad52 u52 hu52 hl52 hc52
      refine Q.loadRo hc52 rfl Try.underlying28 rfl rfl rfl ?_
      refine Q.call ent9 rfl (fun w hQ => c_unturn hQ (by exact hfa u52 (List.mem_of_getElem? hu52))) rfl ?_
      refine Q.call ent11 rfl (fun w hQ => c_turn hQ (by have hq := hfa u52 (List.mem_of_getElem? hu52); have := unturn_cases u52; omega)) rfl ?_
      refine Q.moveT rfl ?_
      refine Q.moveT rfl ?_
      refine Q.indexRo ha Try.underlying22 ti28 rfl rfl (by omega) rfl ?_
      intro ad58 u58 hu58 hl58 hc58
      refine Q.loadRo hc58 rfl Try.underlying28 rfl rfl rfl ?_
      refine Q.neq rfl rfl rfl ?_
      refine Q.isFD (d := 60) rfl (by rw [Option.some.inj (hu52.symm.trans hu58), turn_unturn (hfa u58 (List.mem_of_getElem? hu58)).1]; exact fun h => h rfl) ?_
      refine Q.pickF rfl rfl ?_
      refine WQ.done ?_
      intro w5001 hS5001
      clear hS37
      refine WR.condF rfl ?_
      refine WR.skip ?_
      refine WR.region rfl ?_
      refine S.moveT rfl ?_
      first
        | refine S.addN rfl rfl rfl (by omega) ?_
        | refine S.add rfl rfl rfl ?_
      refine S.assignT rfl ?_
      refine WS.done ?_
      exact ⟨_, (by omega), ⟨i + 1, v37, rfl, (by omega), rfl, rfl, ⟨rfl, rfl, rfl, trivial⟩, (by rw [uB_succ (getI hu34), Int.toNat_natCast]; exact hS5001)⟩⟩
    ·
      skip
      rw [List.take_of_length_le (by omega)] at hS1001
      refine WR.exit ?_
      refine WR.seq ?_
      refine WR.region rfl ?_
      first
        | refine S.buildRow (vs := []) hS1001 Try.underlying26 ti5 rfl rfl rfl rfl rfl rfl rfl ?_
        | refine S.buildRow hS1001 Try.underlying26 ti5 rfl rfl rfl rfl rfl rfl rfl ?_
      intro b62 w62 hS62; clear hS1001
      have hSo := hS62.ownRow (enc := encI .u8) (n := 1) [] rfl (fun _ h => by cases h) (by simp)
      refine S.assignT rfl ?_
      refine WS.done ?_
      refine WR.seq ?_
      refine WR.seq ?_
      refine WR.region rfl ?_
      refine S.assignC rfl ?_
      refine WS.done ?_
      refine WR.block ?_
      refine WR.loopE (fun rq mm rr wr => ∃ (i : Nat) (vy : Value), mm = bs.length - i ∧ (i ≤ bs.length) ∧ rr 9 = vy ∧ rr 10 = .int .i64 (i : Int) ∧ Agr [0, 1, 2, 7] rr rq ∧ St wr R (Ow 5 (encI .u8) 1 vy (iB (bs.take i)) :: Ow 5 (encI .u8) 1 vx (uB us) :: L)) ⟨0, _, rfl, (by omega), rfl, rfl, ⟨rfl, rfl, rfl, rfl, trivial⟩, hSo⟩ ?_
      rintro mm rr w1002 ⟨i, vy, hm1002, hi, hr1002_9, hr1002_10, hA1002, hS1002⟩
      obtain ⟨rr, rfl⟩ := agrBack hA1002
      clear hA1002
      obtain ⟨rr, rfl⟩ := back2 (r := rr) hr1002_9 hr1002_10
      clear hr1002_9 hr1002_10
      refine WR.seq ?_
      refine WR.seq ?_
      refine WR.region rfl ?_
      refine S.moveT rfl ?_
      refine S.moveT rfl ?_
      refine S.lenSl Try.underlying23 rfl rfl ?_
      refine S.lss rfl rfl rfl ?_
      refine WS.done ?_
      refine WR.condD rfl (fun c66 => ?_) (fun c66 => ?_)
      ·
        skip
        refine WR.skip ?_
        refine WR.seq ?_
        refine WR.block ?_
        refine WR.seq ?_
        refine WR.region rfl ?_
        refine S.moveT rfl ?_
        refine S.moveT rfl ?_
        refine S.moveT rfl ?_
        refine S.indexRo hbb Try.underlying23 ti2 rfl rfl (by omega) rfl ?_
        intro ad72 u72 hu72 hl72 hc72
        refine S.loadRo hS1002 hc72 rfl Try.underlying2 rfl rfl rfl ?_
        have hu := hfb u72 (List.mem_of_getElem? hu72)
        have hux := iB_len hfb i
        rw [List.length_take] at hux
        have htf := turn_u64 hu
        have hu10 := ub_len10 (n := (turn u72).toNat) (by omega)
        refine S.call ent12 rfl (r6_int hS1002 (by exact hu)) rfl ?_
        rintro v74 w74 hS74
        clear hS1002
        refine S.appendOO (i := 0) hS74 rfl Try.underlying26 ti5 rfl rfl rfl rfl encI_one (by omega) rfl ?_
        intro v75 w75 hS75; clear hS74
        refine S.assignT rfl ?_
        refine WS.done ?_
        refine WR.seq ?_
        refine WR.regionQ mixed hS75 (by kernel_rfl) rfl ?_
        refine Q.moveT rfl ?_
        refine Q.moveT rfl ?_
        refine Q.indexRo hbb Try.underlying23 ti2 rfl rfl (by omega) rfl ?_
        intro ad78 u78 hu78 hl78 hc78
        refine Q.loadRo hc78 rfl Try.underlying2 rfl rfl rfl ?_
        refine Q.call ent11 rfl (fun w hQ => c_turn hQ (by exact hfb u78 (List.mem_of_getElem? hu78))) rfl ?_
        refine Q.moveT rfl ?_
        refine Q.moveT rfl ?_
        refine Q.indexRo hbb Try.underlying23 ti2 rfl rfl (by omega) rfl ?_
        intro ad83 u83 hu83 hl83 hc83
        refine Q.loadRo hc83 rfl Try.underlying2 rfl rfl rfl ?_
        refine Q.call ent13 rfl (fun w hQ => r6_turn hQ (by exact hfb u83 (List.mem_of_getElem? hu83))) rfl ?_
        refine Q.neq rfl rfl rfl ?_
        refine Q.isFD (d := 86) rfl (by rw [Option.some.inj (hu78.symm.trans hu83)]; exact fun h => h rfl) ?_
        refine WQ.done ?_
        intro w5002 hS5002
        clear hS75
        refine WR.condF rfl ?_
        refine WR.skip ?_
        refine WR.region rfl ?_
        refine S.moveT rfl ?_
        first
          | refine S.addN rfl rfl rfl (by omega) ?_
          | refine S.add rfl rfl rfl ?_
        refine S.assignT rfl ?_
        refine WS.done ?_
        exact ⟨_, (by omega), ⟨i + 1, v75, rfl, (by omega), rfl, rfl, ⟨rfl, rfl, rfl, rfl, trivial⟩, (by rw [iB_succ (getI hu72)]; exact hS5002)⟩⟩
      ·
        skip
        rw [List.take_of_length_le (by omega)] at hS1002
        refine WR.exit ?_
        refine WR.seq ?_
        refine WR.region rfl ?_
        first
          | refine S.buildRow (vs := []) hS1002 Try.underlying26 ti5 rfl rfl rfl rfl rfl rfl rfl ?_
          | refine S.buildRow hS1002 Try.underlying26 ti5 rfl rfl rfl rfl rfl rfl rfl ?_
        intro b87 w87 hS87; clear hS1002
        have hSo := hS87.ownRow (enc := encI .u8) (n := 1) [] rfl (fun _ h => by cases h) (by simp)
        refine S.assignT rfl ?_
        refine WS.done ?_
        refine WR.seq ?_
        refine WR.seq ?_
        refine WR.region rfl ?_
        refine S.assignC rfl ?_
        refine WS.done ?_
        refine WR.block ?_
        refine WR.loopE (fun rq mm rr wr => ∃ (i : Nat) (vz : Value), mm = cs.length - i ∧ (i ≤ cs.length ∧ (∀ x ∈ cs.take i, x.size ≤ 1000)) ∧ rr 11 = vz ∧ rr 12 = .int .i64 (i : Int) ∧ Agr [0, 1, 2, 7, 9] rr rq ∧ St wr R (Ow 5 (encI .u8) 1 vz (tB (cs.take i)) :: Ow 5 (encI .u8) 1 vy (iB bs) :: Ow 5 (encI .u8) 1 vx (uB us) :: L)) ⟨0, _, rfl, (by exact ⟨by omega, fun x h => by simp at h⟩), rfl, rfl, ⟨rfl, rfl, rfl, rfl, rfl, trivial⟩, hSo⟩ ?_
        rintro mm rr w1003 ⟨i, vz, hm1003, ⟨hi, hsz⟩, hr1003_11, hr1003_12, hA1003, hS1003⟩
        obtain ⟨rr, rfl⟩ := agrBack hA1003
        clear hA1003
        obtain ⟨rr, rfl⟩ := back2 (r := rr) hr1003_11 hr1003_12
        clear hr1003_11 hr1003_12
        refine WR.seq ?_
        refine WR.seq ?_
        refine WR.region rfl ?_
        refine S.moveT rfl ?_
        refine S.moveT rfl ?_
        refine S.lenSl Try.underlying24 rfl rfl ?_
        refine S.lss rfl rfl rfl ?_
        refine WS.done ?_
        refine WR.condD rfl (fun c91 => ?_) (fun c91 => ?_)
        ·
          skip
          refine WR.skip ?_
          refine WR.seq ?_
          refine WR.block ?_
          refine WR.seq ?_
          refine WR.seq ?_
          refine WR.region rfl ?_
          refine S.moveT rfl ?_
          refine S.moveT rfl ?_
          refine S.indexRo hc Try.underlying24 ti9 rfl rfl (by omega) rfl ?_
          intro ad96 u96 hu96 hl96 hc96
          refine S.loadRo hS1003 hc96 rfl Try.underlying9 rfl rfl rfl ?_
          refine S.lenStr Try.underlying9 rfl rfl ?_
          have hux := tB_len (cs.take i) hsz
          rw [List.length_take] at hux
          refine S.gtr rfl rfl rfl ?_
          refine WS.done ?_
          refine WR.condD rfl (fun c99 => ?_) (fun c99 => ?_)
          ·
            skip
            refine WR.seq ?_
            refine WR.region rfl ?_
            refine S.assignC rfl ?_
            refine WS.done ?_
            refine WR.ret (ret1 rfl rfl ?_)
            first | exact ⟨rfl, hS1003⟩ | exact ⟨rfl, hS1003.drop⟩ | exact ⟨rfl, hS1003.drop.drop⟩ | exact ⟨rfl, hS1003.drop.drop.drop⟩ | exact ⟨rfl, hS1003.weak (hR108.trans (hR109.trans (hR113.trans (hR114.trans (hR119.trans hR120)))))⟩
          ·
            skip
            refine WR.skip ?_
            refine WR.region rfl ?_
            refine S.moveT rfl ?_
            refine S.moveT rfl ?_
            refine S.moveT rfl ?_
            refine S.indexRo hc Try.underlying24 ti9 rfl rfl (by omega) rfl ?_
            intro ad103 u103 hu103 hl103 hc103
            refine S.loadRo hS1003 hc103 rfl Try.underlying9 rfl rfl rfl ?_
            obtain rfl : u103 = u96 := Option.some.inj (hu103.symm.trans hu96)
            have hu10 := ub_len10 (n := u103.size) (by omega)
            refine S.call ent14 rfl (r6_text hS1003 (by omega)) rfl ?_
            rintro v105 w105 hS105
            clear hS1003
            refine S.appendOO (i := 0) hS105 rfl Try.underlying26 ti5 rfl rfl rfl rfl encI_one (by rw [List.length_append, sB_len]; omega) rfl ?_
            intro v106 w106 hS106; clear hS105
            refine S.assignT rfl ?_
            refine WS.done ?_
            refine WR.region rfl ?_
            refine S.moveT rfl ?_
            first
              | refine S.addN rfl rfl rfl (by omega) ?_
              | refine S.add rfl rfl rfl ?_
            refine S.assignT rfl ?_
            refine WS.done ?_
            exact ⟨_, (by omega), ⟨i + 1, v106, rfl, (by exact ⟨by omega, size_take hsz (getI hu96) (by omega)⟩), rfl, rfl, ⟨rfl, rfl, rfl, rfl, rfl, trivial⟩, (by rw [tB_succ (getI hu103)]; exact hS106)⟩⟩
        ·
          skip
          rw [List.take_of_length_le (by omega)] at hS1003 hsz
          refine WR.exit ?_
          refine WR.seq ?_
          refine WR.region rfl ?_
          refine S.moveT rfl ?_
          refine S.call ent16 rfl (c_uints hS1003 (by exact ha) (by exact hfa) (by omega)) rfl ?_
          rintro v108 w108 hS108
          clear hS1003
          obtain ⟨R108, hR108, hro108, hSf108⟩ := hS108.freeze (fun _ _ => rfl)
          replace ha := ha.mono hR108
          replace hbb := hbb.mono hR108
          replace hc := hc.mono hR108
          refine S.moveT rfl ?_
          obtain ⟨R109, hR109, hro109, hSf109⟩ := (hSf108.at_ (i := 2) rfl).freeze (fun _ _ => rfl)
          replace ha := ha.mono hR109
          replace hbb := hbb.mono hR109
          replace hc := hc.mono hR109
          replace hro108 := hro108.mono hR109
          refine S.call ent15 rfl (r_sameBytes hSf109 (by exact hro108) (by exact hro109) (by have := uB_len hfa us.length; rw [List.take_length] at this; omega)) rfl ?_
          rintro _ w110 ⟨rfl, hS110⟩
          clear hSf109
          refine S.isTD (d := 110) rfl (by rfl) ?_
          refine S.moveT rfl ?_
          refine S.moveT rfl ?_
          refine S.call ent17 rfl (c_ints hS110 (by exact hbb) (by exact hfb) (by omega)) rfl ?_
          rintro v113 w113 hS113
          clear hS110
          obtain ⟨R113, hR113, hro113, hSf113⟩ := hS113.freeze (fun _ _ => rfl)
          replace ha := ha.mono hR113
          replace hbb := hbb.mono hR113
          replace hc := hc.mono hR113
          replace hro108 := hro108.mono hR113
          replace hro109 := hro109.mono hR113
          refine S.moveT rfl ?_
          obtain ⟨R114, hR114, hro114, hSf114⟩ := (hSf113.at_ (i := 1) rfl).freeze (fun _ _ => rfl)
          replace ha := ha.mono hR114
          replace hbb := hbb.mono hR114
          replace hc := hc.mono hR114
          replace hro108 := hro108.mono hR114
          replace hro109 := hro109.mono hR114
          replace hro113 := hro113.mono hR114
          refine S.call ent15 rfl (r_sameBytes hSf114 (by exact hro113) (by exact hro114) (by have := iB_len hfb bs.length; rw [List.take_length] at this; omega)) rfl ?_
          rintro _ w115 ⟨rfl, hS115⟩
          clear hSf114
          refine S.isTD (d := 115) rfl (by rfl) ?_
          refine S.pickT rfl rfl ?_
          refine S.moveT rfl ?_
          refine S.moveT rfl ?_
          refine S.call ent18 rfl (c_texts hS115 (by exact hc) (by exact hsz) (by omega)) rfl ?_
          rintro v119 w119 hS119
          clear hS115
          obtain ⟨R119, hR119, hro119, hSf119⟩ := hS119.freeze (fun _ _ => rfl)
          replace ha := ha.mono hR119
          replace hbb := hbb.mono hR119
          replace hc := hc.mono hR119
          replace hro108 := hro108.mono hR119
          replace hro109 := hro109.mono hR119
          replace hro113 := hro113.mono hR119
          replace hro114 := hro114.mono hR119
          refine S.moveT rfl ?_
          obtain ⟨R120, hR120, hro120, hSf120⟩ := hSf119.freeze (fun _ _ => rfl)
          replace ha := ha.mono hR120
          replace hbb := hbb.mono hR120
          replace hc := hc.mono hR120
          replace hro108 := hro108.mono hR120
          replace hro109 := hro109.mono hR120
          replace hro113 := hro113.mono hR120
          replace hro114 := hro114.mono hR120
          replace hro119 := hro119.mono hR120
          refine S.call ent15 rfl (r_sameBytes hSf120 (by exact hro119) (by exact hro120) (by have := tB_len cs hsz; omega)) rfl ?_
          rintro _ w121 ⟨rfl, hS121⟩
          clear hSf120
          refine S.isTD (d := 121) rfl (by rfl) ?_
          refine S.pickT rfl rfl ?_
          refine S.assignT rfl ?_
          refine WS.done ?_
          refine WR.ret (ret1 rfl rfl ?_)
          first | exact ⟨rfl, hS121⟩ | exact ⟨rfl, hS121.drop⟩ | exact ⟨rfl, hS121.drop.drop⟩ | exact ⟨rfl, hS121.drop.drop.drop⟩ | exact ⟨rfl, hS121.weak (hR108.trans (hR109.trans (hR113.trans (hR114.trans (hR119.trans hR120)))))⟩


end Go.Proofs.Ytfajmfdoemjacaa.B

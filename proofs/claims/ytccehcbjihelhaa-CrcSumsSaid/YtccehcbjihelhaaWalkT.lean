import Derived.Test.YtccehcbjihelhaaWalkA
namespace Go.Proofs.Ytccehcbjihelhaa.B
open Go.Proofs Go.RowKit Go.Proofs.Ytccehcbjihelhaa.Crc
set_option linter.unusedVariables false
set_option linter.unusedSimpArgs false
set_option maxRecDepth 100000 in
set_option maxHeartbeats 4000000 in
theorem law_CrcBack {w : World} {R : Kn} {L : List HP} (hS : St w R (L)) {v0 : Value} {bs : List Int} {times : Int} (h0 : Ro R (encI .u8) 1 v0 bs) (hm3 : bs.length ≤ 140737488351232) :
    Fn Try.prog 4 #[v0, .int .i64 times] w (fun v w' => v = .bool true ∧ St w' R L) := by
  obtain ⟨a0, c0, rfl, hl0⟩ := h0.len
  refine Fn.intro (n := 49) Try.func4 rfl rfl rfl ?_
  refine WR.seq ?_
  refine WR.region rfl ?_
  refine S.assignC rfl ?_
  refine WS.done ?_
  refine WR.seq ?_
  refine WR.seq ?_
  refine WR.region rfl ?_
  refine S.call ent6 rfl (law_alive hS ) rfl ?_
  rintro _ w10 ⟨rfl, hS10⟩
  clear hS
  refine S.not rfl rfl ?_
  refine WS.done ?_
  refine WR.condF rfl ?_
  refine WR.skip ?_
  refine WR.seq ?_
  refine WR.seq ?_
  refine WR.region rfl ?_
  refine S.moveT rfl ?_
  refine S.lenSl Try.underlying23 rfl rfl ?_
  refine S.gtr rfl rfl rfl ?_
  refine S.moveT rfl ?_
  refine S.splitD (d := 15) rfl (fun c15 => ?_) (fun c15 => ?_)
  ·
    skip
    refine S.off rfl ?_
    refine S.off rfl ?_
    refine S.pickTC rfl rfl ?_
    refine S.moveT rfl ?_
    refine S.off rfl ?_
    refine S.off rfl ?_
    refine S.pickTC rfl rfl ?_
    refine WS.done ?_
    refine WR.condT rfl ?_
    refine WR.seq ?_
    refine WR.region rfl ?_
    refine S.assignC rfl ?_
    refine WS.done ?_
    refine WR.ret (ret1 rfl rfl ?_)
    exact ⟨rfl, hS10⟩
  ·
    skip
    refine S.moveT rfl ?_
    refine S.lss rfl rfl rfl ?_
    refine S.pickF rfl rfl ?_
    refine S.moveT rfl ?_
    refine S.splitD (d := 19) rfl (fun c19 => ?_) (fun c19 => ?_)
    ·
      skip
      refine S.off rfl ?_
      refine S.off rfl ?_
      refine S.pickTC rfl rfl ?_
      refine WS.done ?_
      refine WR.condT rfl ?_
      refine WR.seq ?_
      refine WR.region rfl ?_
      refine S.assignC rfl ?_
      refine WS.done ?_
      refine WR.ret (ret1 rfl rfl ?_)
      exact ⟨rfl, hS10⟩
    ·
      skip
      refine S.moveT rfl ?_
      refine S.gtr rfl rfl rfl ?_
      refine S.pickF rfl rfl ?_
      refine WS.done ?_
      refine WR.condD rfl (fun c22 => ?_) (fun c22 => ?_)
      ·
        skip
        refine WR.seq ?_
        refine WR.region rfl ?_
        refine S.assignC rfl ?_
        refine WS.done ?_
        refine WR.ret (ret1 rfl rfl ?_)
        exact ⟨rfl, hS10⟩
      ·
        skip
        refine WR.skip ?_
        refine WR.seq ?_
        refine WR.region rfl ?_
        refine S.moveT rfl ?_
        refine S.call ent9 rfl (ref_CopyBytes hS10 (by assumption) (by omega)) rfl ?_
        rintro v24 w24 hS24
        clear hS10
        refine S.assignT rfl ?_
        refine WS.done ?_
        refine WR.seq ?_
        refine WR.seq ?_
        refine WR.region rfl ?_
        refine S.assignC rfl ?_
        refine WS.done ?_
        refine WR.block ?_
        refine WR.loopE (fun rq mm rr wr => ∃ (i : Nat) (v5 : Value), mm = times.toNat - i ∧ (i ≤ times.toNat) ∧ rr 5 = v5 ∧ rr 6 = .int .i64 (i : Int) ∧ Agr [0, 1] rr rq ∧ St wr R (Ow 5 (encI .u8) 1 v5 (sealN bs i) :: L)) ⟨0, _, rfl, (by omega), rfl, rfl, ⟨rfl, rfl, trivial⟩, hS24⟩ ?_
        rintro mm rr w1001 ⟨i, v5, hm1001, hf1001, hr1001_5, hr1001_6, hA1001, hS1001⟩
        obtain ⟨rr, rfl⟩ := agrBack hA1001
        clear hA1001
        obtain ⟨rr, rfl⟩ := back2 (r := rr) hr1001_5 hr1001_6
        clear hr1001_5 hr1001_6
        refine WR.seq ?_
        refine WR.seq ?_
        refine WR.region rfl ?_
        refine S.moveT rfl ?_
        refine S.moveT rfl ?_
        refine S.lss rfl rfl rfl ?_
        refine WS.done ?_
        refine WR.condD rfl (fun c27 => ?_) (fun c27 => ?_)
        ·
          skip
          refine WR.skip ?_
          refine WR.seq ?_
          refine WR.block ?_
          refine WR.region rfl ?_
          refine S.moveT rfl ?_
          obtain ⟨a5, c5, rfl⟩ := hS1001.rowLen
          first
            | refine S.buildRow (vs := [.slice _ _ _]) hS1001 Try.underlying22 ti23 rfl rfl rfl rfl rfl rfl rfl ?_
            | refine S.buildRow hS1001 Try.underlying22 ti23 rfl rfl rfl rfl rfl rfl rfl ?_
          intro b31 w31 hS31; clear hS1001
          obtain ⟨R1, hR1, hroL, hSa⟩ := (hS31.at_ (i := 1) rfl).freeze (fun _ _ => rfl)
          obtain ⟨R2, hR2, hPL, hSb⟩ := hSa.keepP [(_, sealN bs i)] rfl (by intro p hp; rw [List.mem_singleton] at hp; subst hp; exact hroL)
          refine S.call ent15 rfl (crc_Seal (xs := sealN bs i) hSb (by simp) (hPL) (by simp) (by simp only [List.flatMap_cons, List.flatMap_nil, List.append_nil]; rw [sealN_len]; omega)) rfl ?_
          rintro v32 w32 hS32
          clear hSb
          replace hS32 := hS32.weak (hR1.trans hR2)
          refine S.assignT rfl ?_
          refine WS.done ?_
          refine WR.region rfl ?_
          refine S.moveT rfl ?_
          first
            | refine S.addN rfl rfl rfl (by omega) ?_
            | refine S.add rfl rfl rfl ?_
          refine S.assignT rfl ?_
          refine WS.done ?_
          exact ⟨_, (by omega), ⟨i + 1, v32, rfl, (by omega), rfl, rfl, ⟨rfl, rfl, trivial⟩, hS32⟩⟩
        ·
          skip
          refine WR.exit ?_
          refine WR.seq ?_
          refine WR.seq ?_
          refine WR.region rfl ?_
          refine S.assignC rfl ?_
          refine WS.done ?_
          refine WR.block ?_
          refine WR.loopE (fun rq mm rr wr => ∃ (k : Nat) (v5 : Value), mm = times.toNat - k ∧ (k ≤ times.toNat) ∧ rr 5 = v5 ∧ rr 7 = .int .i64 (k : Int) ∧ Agr [0, 1] rr rq ∧ St wr R (Ow 5 (encI .u8) 1 v5 (sealN bs (times.toNat - k)) :: L)) ⟨0, _, rfl, (by omega), rfl, rfl, ⟨rfl, rfl, trivial⟩, (by rw [show times.toNat - 0 = i by omega]; exact hS1001)⟩ ?_
          rintro mm rr w1002 ⟨k, v5, hm1002, hf1002, hr1002_5, hr1002_7, hA1002, hS1002⟩
          obtain ⟨rr, rfl⟩ := agrBack hA1002
          clear hA1002
          obtain ⟨rr, rfl⟩ := back2 (r := rr) hr1002_5 hr1002_7
          clear hr1002_5 hr1002_7
          skip
          refine WR.seq ?_
          refine WR.seq ?_
          refine WR.region rfl ?_
          refine S.moveT rfl ?_
          refine S.moveT rfl ?_
          refine S.lss rfl rfl rfl ?_
          refine WS.done ?_
          refine WR.condD rfl (fun c35 => ?_) (fun c35 => ?_)
          ·
            skip
            refine WR.skip ?_
            refine WR.seq ?_
            refine WR.block ?_
            refine WR.seq ?_
            refine WR.region rfl ?_
            refine S.moveT rfl ?_
            obtain ⟨R1, hR1, hroL, hSa⟩ := hS1002.freeze (fun _ _ => rfl)
            refine S.call ent10 rfl (crc_Open hSa (hroL) (by rw [sealN_len]; omega)) rfl ?_
            rintro _ w40 ⟨vb40, rfl, hS40⟩
            clear hSa
            replace hS40 := hS40.weak hR1
            refine S.moveT rfl ?_
            refine S.extract rfl rfl rfl ?_
            refine S.extract rfl rfl rfl ?_
            refine S.assignT rfl ?_
            refine S.assignT rfl ?_
            refine WS.done ?_
            refine WR.seq ?_
            refine WR.seq ?_
            refine WR.region rfl ?_
            refine S.moveT rfl ?_
            refine S.neq rfl rfl rfl ?_
            refine S.isFD (d := 44) rfl (by rw [(sealN_open bs times.toNat k (by omega)).1]; exact fun h => h rfl) ?_
            refine WS.done ?_
            refine WR.condF rfl ?_
            refine WR.skip ?_
            refine WR.region rfl ?_
            refine S.moveT rfl ?_
            refine S.assignT rfl ?_
            refine WS.done ?_
            refine WR.region rfl ?_
            refine S.moveT rfl ?_
            first
              | refine S.addN rfl rfl rfl (by omega) ?_
              | refine S.add rfl rfl rfl ?_
            refine S.assignT rfl ?_
            refine WS.done ?_
            exact ⟨_, (by omega), ⟨k + 1, vb40, rfl, (by omega), rfl, rfl, ⟨rfl, rfl, trivial⟩, (by rw [← (sealN_open bs times.toNat k (by omega)).2]; exact hS40)⟩⟩
          ·
            skip
            refine WR.exit ?_
            refine WR.seq ?_
            refine WR.region rfl ?_
            refine S.moveT rfl ?_
            refine S.moveT rfl ?_
            obtain ⟨R1, hR1, hroL, hSa⟩ := hS1002.freeze (fun _ _ => rfl)
            refine S.call ent14 rfl (ref_SameBytes hSa (hroL) ((h0.mono hR1)) (by rw [sealN_len]; omega)) rfl ?_
            rintro _ w48 ⟨rfl, hS48⟩
            clear hSa
            refine S.isTD (d := 48) rfl (by rw [show times.toNat - k = 0 by omega]; rfl) ?_
            replace hS48 := hS48.weak hR1
            refine S.assignT rfl ?_
            refine WS.done ?_
            refine WR.ret (ret1 rfl rfl ?_)
            exact ⟨rfl, hS48⟩

set_option maxRecDepth 100000 in
set_option maxHeartbeats 4000000 in
theorem law_CrcSums {w : World} {R : Kn} {L : List HP} (hS : St w R (L)) {v0 v1 : Value} {ps : List (Value × List Int)} {bs : List Int} (hp : RoP R .u8 v0 ps) (h1 : Ro R (encI .u8) 1 v1 bs) (hm : ps.length ≤ 9223372036854775807) (hm2 : ∀ p ∈ ps, p.2.length ≤ 140737488351232) (hm3 : bs.length ≤ 140737488351232) :
    Fn Try.prog 3 #[v0, v1] w (fun v w' => v = .bool true ∧ St w' R L) := by
  obtain ⟨a1, c1, rfl, hl1⟩ := h1.len
  refine Fn.intro (n := 61) Try.func3 rfl rfl rfl ?_
  refine WR.seq ?_
  refine WR.region rfl ?_
  refine S.assignC rfl ?_
  refine WS.done ?_
  refine WR.seq ?_
  refine WR.seq ?_
  refine WR.region rfl ?_
  refine S.call ent6 rfl (law_alive hS ) rfl ?_
  rintro _ w11 ⟨rfl, hS11⟩
  clear hS
  refine S.not rfl rfl ?_
  refine WS.done ?_
  refine WR.condF rfl ?_
  refine WR.skip ?_
  refine WR.seq ?_
  refine WR.seq ?_
  refine WR.region rfl ?_
  refine S.moveT rfl ?_
  refine S.call ent7 rfl (law_great hS11 (by assumption) (by assumption) (by assumption)) rfl ?_
  rintro _ w14 ⟨rfl, hS14⟩
  clear hS11
  refine S.moveT rfl ?_
  refine S.splitD (d := 15) rfl (fun c15 => ?_) (fun c15 => ?_)
  ·
    skip
    refine S.off rfl ?_
    refine S.off rfl ?_
    refine S.off rfl ?_
    refine S.pickTC rfl rfl ?_
    refine WS.done ?_
    refine WR.condT rfl ?_
    refine WR.seq ?_
    refine WR.region rfl ?_
    refine S.assignC rfl ?_
    refine WS.done ?_
    refine WR.ret (ret1 rfl rfl ?_)
    exact ⟨rfl, hS14⟩
  ·
    skip
    refine S.moveT rfl ?_
    refine S.lenSl Try.underlying23 rfl rfl ?_
    refine S.gtr rfl rfl rfl ?_
    refine S.pickF rfl rfl ?_
    refine WS.done ?_
    refine WR.condD rfl (fun c19 => ?_) (fun c19 => ?_)
    ·
      skip
      refine WR.seq ?_
      refine WR.region rfl ?_
      refine S.assignC rfl ?_
      refine WS.done ?_
      refine WR.ret (ret1 rfl rfl ?_)
      exact ⟨rfl, hS14⟩
    ·
      skip
      refine WR.skip ?_
      refine WR.seq ?_
      refine WR.region rfl ?_
      refine S.moveT rfl ?_
      have htot : (ps.flatMap (·.2)).length ≤ 3000 := by omega
      refine S.call ent8 rfl (law_join hS14 (by assumption) (by assumption) (by omega)) rfl ?_
      rintro v21 w21 hS21
      clear hS14
      obtain ⟨R21, hR21, hro21, hSf21⟩ := hS21.freeze (fun _ _ => rfl)
      replace hp := hp.mono hR21
      replace h1 := h1.mono hR21
      refine S.assignT rfl ?_
      refine WS.done ?_
      refine WR.seq ?_
      refine WR.region rfl ?_
      refine S.moveT rfl ?_
      refine S.call ent9 rfl (ref_CopyBytes hSf21 (by assumption) (by omega)) rfl ?_
      rintro v23 w23 hS23
      clear hSf21
      obtain ⟨R23, hR23, hro23, hSf23⟩ := hS23.freeze (fun _ _ => rfl)
      replace hp := hp.mono hR23
      replace h1 := h1.mono hR23
      replace hro21 := hro21.mono hR23
      refine S.assignT rfl ?_
      refine WS.done ?_
      refine WR.seq ?_
      refine WR.region rfl ?_
      refine S.moveT rfl ?_
      refine S.call ent10 rfl (crc_Open hSf23 (hro23) (by omega)) rfl ?_
      rintro _ w26 ⟨vb26, rfl, hS26⟩
      clear hSf23
      obtain ⟨R26, hR26, hro26, hSf26⟩ := hS26.freeze (fun _ _ => rfl)
      replace hp := hp.mono hR26
      replace h1 := h1.mono hR26
      replace hro21 := hro21.mono hR26
      replace hro23 := hro23.mono hR26
      refine S.moveT rfl ?_
      refine S.extract rfl rfl rfl ?_
      refine S.extract rfl rfl rfl ?_
      refine S.assignT rfl ?_
      refine S.assignT rfl ?_
      refine WS.done ?_
      refine WR.seq ?_
      refine WR.region rfl ?_
      refine S.moveT rfl ?_
      refine S.call ent11 rfl (ref_Open hSf26 (h1) (by omega)) rfl ?_
      rintro _ w31 ⟨vb31, R31, rfl, hR31, hro31, hS31⟩
      clear hSf26
      replace hp := hp.mono hR31
      replace h1 := h1.mono hR31
      replace hro21 := hro21.mono hR31
      replace hro23 := hro23.mono hR31
      replace hro26 := hro26.mono hR31
      refine S.moveT rfl ?_
      refine S.extract rfl rfl rfl ?_
      refine S.extract rfl rfl rfl ?_
      refine S.assignT rfl ?_
      refine S.assignT rfl ?_
      refine WS.done ?_
      refine WR.seq ?_
      refine WR.region rfl ?_
      refine S.moveT rfl ?_
      refine S.call ent12 rfl (crc_Sum (xs := ps.flatMap (·.2)) hS31 (by rfl) (hp) (by assumption) (by omega)) rfl ?_
      rintro _ w35 ⟨rfl, hS35⟩
      clear hS31
      refine S.moveT rfl ?_
      refine S.call ent13 rfl (ref_Sum hS35 (hro21) (by omega)) rfl ?_
      rintro _ w37 ⟨rfl, hS37⟩
      clear hS35
      refine S.eql rfl rfl rfl ?_
      refine S.isTD (d := 38) rfl (by rfl) ?_
      refine S.moveT rfl ?_
      refine S.moveT rfl ?_
      refine S.call ent15 rfl (crc_Seal (xs := ps.flatMap (·.2)) hS37 (by rfl) (hp) (by assumption) (by omega)) rfl ?_
      rintro v41 w41 hS41
      clear hS37
      obtain ⟨R41, hR41, hro41, hSf41⟩ := hS41.freeze (fun _ _ => rfl)
      replace hp := hp.mono hR41
      replace h1 := h1.mono hR41
      replace hro21 := hro21.mono hR41
      replace hro23 := hro23.mono hR41
      replace hro26 := hro26.mono hR41
      replace hro31 := hro31.mono hR41
      refine S.moveT rfl ?_
      refine S.call ent16 rfl (ref_Seal hSf41 (hro21) (by omega)) rfl ?_
      rintro v43 w43 hS43
      clear hSf41
      obtain ⟨R43, hR43, hro43, hSf43⟩ := hS43.freeze (fun _ _ => rfl)
      replace hp := hp.mono hR43
      replace h1 := h1.mono hR43
      replace hro21 := hro21.mono hR43
      replace hro23 := hro23.mono hR43
      replace hro26 := hro26.mono hR43
      replace hro31 := hro31.mono hR43
      replace hro41 := hro41.mono hR43
      refine S.call ent14 rfl (ref_SameBytes hSf43 (hro41) (hro43) (by rw [seal_len]; omega)) rfl ?_
      rintro _ w44 ⟨rfl, hS44⟩
      clear hSf43
      refine S.isTD (d := 44) rfl (by rfl) ?_
      refine S.pickT rfl rfl ?_
      refine S.moveT rfl ?_
      refine S.moveT rfl ?_
      refine S.moveT rfl ?_
      refine S.call ent14 rfl (ref_SameBytes hS44 (hro26) (hro31) (by have := openB_len bs; omega)) rfl ?_
      rintro _ w49 ⟨rfl, hS49⟩
      clear hS44
      refine S.isTD (d := 49) rfl (by rfl) ?_
      refine S.pickT rfl rfl ?_
      refine S.moveT rfl ?_
      refine S.moveT rfl ?_
      refine S.moveT rfl ?_
      refine S.eql rfl rfl rfl ?_
      refine S.isTD (d := 54) rfl (by rfl) ?_
      refine S.pickT rfl rfl ?_
      refine S.moveT rfl ?_
      refine S.moveT rfl ?_
      refine S.moveT rfl ?_
      refine S.call ent14 rfl (ref_SameBytes hS49 (hro23) (h1) (by omega)) rfl ?_
      rintro _ w59 ⟨rfl, hS59⟩
      clear hS49
      refine S.isTD (d := 59) rfl (by rfl) ?_
      refine S.pickT rfl rfl ?_
      refine S.assignT rfl ?_
      refine WS.done ?_
      refine WR.ret (ret1 rfl rfl ?_)
      exact ⟨rfl, hS59.weak (((((hR21.trans hR23).trans hR26).trans hR31).trans hR41).trans hR43)⟩


end Go.Proofs.Ytccehcbjihelhaa.B

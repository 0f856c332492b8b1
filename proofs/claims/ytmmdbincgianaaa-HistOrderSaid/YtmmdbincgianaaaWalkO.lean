import Derived.Test.YtmmdbincgianaaaWalkE
import Derived.Test.YtmmdbincgianaaaWalkF
namespace Go.Proofs.Ytmmdbincgianaaa.B
open Go.Proofs Go.RowKit
set_option linter.unusedVariables false
set_option linter.unusedSimpArgs false
set_option maxRecDepth 100000 in
set_option maxHeartbeats 4000000 in
theorem law_HistOrder {w : World} {R : Kn} {L : List HP}  (hS : St w R (L)) {v0 : Value} {xs : List Int} (h0 : Ro R (encI .i64) 1 v0 xs) (hf : ∀ x ∈ xs, fits x) (hm : xs.length ≤ 140737488355328) :
    Fn Try.prog 6 #[v0] w (fun v w' => v = .bool true ∧ St w' R L) := by
  obtain ⟨a0, c0, rfl, hl0⟩ := h0.len
  refine Fn.intro (n := 78) Try.func6 rfl rfl rfl ?_
  refine WR.seq ?_
  refine WR.region rfl ?_
  refine S.assignC rfl ?_
  refine WS.done ?_
  refine WR.seq ?_
  refine WR.seq ?_
  refine WR.region rfl ?_
  refine S.call ent8 rfl (l5_alive hS ) rfl ?_
  rintro _ w13 ⟨rfl, hS13⟩
  clear hS
  refine S.not rfl rfl ?_
  refine WS.done ?_
  refine WR.condF rfl ?_
  refine WR.skip ?_
  refine WR.seq ?_
  refine WR.seq ?_
  refine WR.region rfl ?_
  refine S.moveT rfl ?_
  refine S.lenSl Try.underlying22 rfl rfl ?_
  refine S.gtr rfl rfl rfl ?_
  refine WS.done ?_
  refine WR.condD rfl (fun c17 => ?_) (fun c17 => ?_)
  ·
    skip
    refine WR.seq ?_
    refine WR.region rfl ?_
    refine S.assignC rfl ?_
    refine WS.done ?_
    refine WR.ret (ret1 rfl rfl ?_)
    exact ⟨rfl, hS13⟩
  ·
    skip
    refine WR.skip ?_
    refine WR.seq ?_
    have hl60 : xs.length ≤ 60 := by omega
    refine WR.region rfl ?_
    refine S.moveT rfl ?_
    refine S.call ent9 rfl (h_of hS13 (by exact h0) (by exact hf) (by omega)) rfl ?_
    rintro _ w19 ⟨rfl, hS19⟩
    clear hS13
    refine S.alloc (cs := aI (List.replicate 65 0)) hS19 ti26 rfl rfl ?_
    intro b3 w3 hS3; clear hS19
    refine S.storeArr (i := 0) hS3 rfl ti26 (by first | assumption | exact rfl | exact tab_len | exact ofL_len | exact mrg_len | exact mixL_len | exact halfL_len | (rw [List.length_set]; first | assumption | exact ofL_len | exact mixL_len | exact halfL_len)) (by first | assumption | exact rfl | exact tab_len | exact ofL_len | exact mrg_len | exact mixL_len | exact halfL_len | (rw [List.length_set]; first | assumption | exact ofL_len | exact mixL_len | exact halfL_len)) rfl rfl rfl ?_
    intro w2001 hS2001; clear hS3
    refine WS.done ?_
    refine WR.seq ?_
    refine WR.seq ?_
    refine WR.region rfl ?_
    refine S.assignC rfl ?_
    refine WS.done ?_
    refine WR.block ?_
    refine WR.loopE (fun rq mm rr wr => ∃ (k : Nat), mm = xs.length - k ∧ (k ≤ xs.length) ∧ rr 4 = .int .i64 (k : Int) ∧ Agr [0, 3] rr rq ∧ St wr R (blk b3 (.cells (aI (ofL xs)) 26 (0, 0)) :: L)) ⟨0, rfl, (by omega), rfl, ⟨rfl, rfl, trivial⟩, hS2001⟩ ?_
    rintro mm rr w1001 ⟨k, hm1001, hk, hr1001_4, hA1001, hS1001⟩
    obtain ⟨rr, rfl⟩ := agrBack hA1001
    clear hA1001
    obtain ⟨rr, rfl⟩ := back1 (r := rr) hr1001_4
    clear hr1001_4
    refine WR.seq ?_
    refine WR.seq ?_
    refine WR.region rfl ?_
    refine S.moveT rfl ?_
    refine S.moveT rfl ?_
    refine S.lenSl Try.underlying22 rfl rfl ?_
    refine S.lss rfl rfl rfl ?_
    refine WS.done ?_
    refine WR.condD rfl (fun c23 => ?_) (fun c23 => ?_)
    ·
      skip
      refine WR.skip ?_
      refine WR.seq ?_
      refine WR.block ?_
      refine WR.seq ?_
      refine WR.regionW (fun j => false) 9 rfl mixed hS1001 ?_
      intro w6002 hS6002; clear hS1001; have hC := hS6002
      refine WA.take (fuel := 8) 0 rfl (by kernel_rfl) (by kernel_rfl) (by kernel_rfl) (by kernel_rfl) rfl rfl hC ?_
      refine Q.loadArr (i := 0) rfl Try.underlying26 ti26 (by first | assumption | exact rfl | exact tab_len | exact ofL_len | exact mrg_len | exact mixL_len | exact halfL_len | (rw [List.length_set]; first | assumption | exact ofL_len | exact mixL_len | exact halfL_len)) rfl rfl ?_
      refine WQ.done ?_
      refine WA.take (fuel := 7) 1 rfl (by kernel_rfl) (by kernel_rfl) (by kernel_rfl) (by kernel_rfl) rfl rfl hC ?_
      refine Q.moveT rfl ?_
      refine WQ.done ?_
      refine WA.one (fuel := 6) 2 rfl (by kernel_rfl) rfl ?_
      refine S.call ent22 rfl (w_of hS6002 (by unfold fits; omega)) rfl ?_
      rintro _ w29 ⟨rfl, hS29⟩
      clear hS6002
      refine WS.done ⟨fun _ => hS29, ?_⟩
      replace hC := hS29
      refine WA.one (fuel := 5) 3 rfl (by kernel_rfl) rfl ?_
      refine S.call ent19 rfl (h_rank hS29 (by exact ofL_len) (by exact ofL_fits hm) (by exact w_fits _) (by exact (w_range _).2)) rfl ?_
      rintro _ w30 ⟨x30, rfl, hK30, hS30⟩
      clear hS29
      rw [w_back (by omega)] at hK30
      refine WS.done ⟨fun _ => hS30, ?_⟩
      replace hC := hS30
      refine WA.take (fuel := 4) 4 rfl (by kernel_rfl) (by kernel_rfl) (by kernel_rfl) (by kernel_rfl) rfl rfl hC ?_
      refine Q.moveT rfl ?_
      refine WQ.done ?_
      refine WA.take (fuel := 3) 5 rfl (by kernel_rfl) (by kernel_rfl) (by kernel_rfl) (by kernel_rfl) rfl rfl hC ?_
      refine Q.extract rfl rfl rfl ?_
      refine WQ.done ?_
      refine WA.take (fuel := 2) 6 rfl (by kernel_rfl) (by kernel_rfl) (by kernel_rfl) (by kernel_rfl) rfl rfl hC ?_
      refine Q.extract rfl rfl rfl ?_
      refine WQ.done ?_
      refine WA.take (fuel := 1) 7 rfl (by kernel_rfl) (by kernel_rfl) (by kernel_rfl) (by kernel_rfl) rfl rfl hC ?_
      refine Q.assignT rfl ?_
      refine WQ.done ?_
      refine WA.take (fuel := 0) 8 rfl (by kernel_rfl) (by kernel_rfl) (by kernel_rfl) (by kernel_rfl) rfl rfl hC ?_
      refine Q.assignT rfl ?_
      refine WQ.done ?_
      refine WA.done (by kernel_rfl) ?_
      clear hC
      refine WR.seq ?_
      obtain ⟨b, rfl, hb65, hb1, hb2⟩ := rank_some hf (k := (k : Int)) (by omega) (by omega) hK30
      refine WR.region rfl ?_
      refine S.assignC rfl ?_
      refine WS.done ?_
      refine WR.seq ?_
      refine WR.region rfl ?_
      refine S.assignC rfl ?_
      refine WS.done ?_
      refine WR.seq ?_
      refine WR.seq ?_
      refine WR.region rfl ?_
      refine S.assignC rfl ?_
      refine WS.done ?_
      refine WR.block ?_
      refine WR.loopE (fun rq mm rr wr => ∃ (i : Nat), mm = xs.length - i ∧ (i ≤ xs.length) ∧ rr 7 = .int .i64 (clt b (xs.take i)) ∧ rr 8 = .int .i64 (cnt b (xs.take i)) ∧ rr 9 = .int .i64 (i : Int) ∧ Agr [0, 3, 4, 5, 6] rr rq ∧ St wr R (blk b3 (.cells (aI (ofL xs)) 26 (0, 0)) :: L)) ⟨0, rfl, (by omega), rfl, rfl, rfl, ⟨rfl, rfl, rfl, rfl, rfl, trivial⟩, hS30⟩ ?_
      rintro mm rr w1002 ⟨i, hm1002, hi, hr1002_7, hr1002_8, hr1002_9, hA1002, hS1002⟩
      obtain ⟨rr, rfl⟩ := agrBack hA1002
      clear hA1002
      obtain ⟨rr, rfl⟩ := back3 (r := rr) hr1002_7 hr1002_8 hr1002_9
      clear hr1002_7 hr1002_8 hr1002_9
      refine WR.seq ?_
      refine WR.seq ?_
      refine WR.region rfl ?_
      refine S.moveT rfl ?_
      refine S.moveT rfl ?_
      refine S.lenSl Try.underlying22 rfl rfl ?_
      refine S.lss rfl rfl rfl ?_
      refine WS.done ?_
      refine WR.condD rfl (fun c36 => ?_) (fun c36 => ?_)
      ·
        skip
        refine WR.skip ?_
        refine WR.seq ?_
        refine WR.block ?_
        refine WR.seq ?_
        refine WR.region rfl ?_
        refine S.moveT rfl ?_
        refine S.moveT rfl ?_
        refine S.indexRo h0 Try.underlying22 ti2 rfl rfl (by omega) rfl ?_
        intro ad41 u41 hu41 hl41 hc41
        refine S.loadRo hS1002 hc41 rfl Try.underlying2 rfl rfl rfl ?_
        have hfu := hf u41 (List.mem_of_getElem? hu41)
        have hcl := clt_le (b := b) (xs := xs.take i)
        have hcn := cnt_le (k := b) (xs := xs.take i)
        have hcn0 := cnt_nonneg (k := b) (xs := xs.take i)
        have hit : (xs.take i).length ≤ xs.length := by rw [List.length_take]; omega
        refine S.call ent23 rfl (h_bucket hS1002 (by exact hfu)) rfl ?_
        rintro _ w43 ⟨rfl, hS43⟩
        clear hS1002
        refine S.assignT rfl ?_
        refine WS.done ?_
        refine WR.seq ?_
        refine WR.seq ?_
        refine WR.region rfl ?_
        refine S.moveT rfl ?_
        refine S.moveT rfl ?_
        refine S.lss rfl rfl rfl ?_
        refine WS.done ?_
        refine WR.condD rfl (fun c46 => ?_) (fun c46 => ?_)
        ·
          skip
          refine WR.region rfl ?_
          refine S.moveT rfl ?_
          first
            | refine S.addN rfl rfl rfl (by omega) ?_
            | refine S.add rfl rfl rfl ?_
          refine S.assignT rfl ?_
          refine WS.done ?_
          refine WR.seq ?_
          refine WR.region rfl ?_
          refine S.moveT rfl ?_
          refine S.moveT rfl ?_
          refine S.eql rfl rfl rfl ?_
          refine WS.done ?_
          refine WR.condD rfl (fun c51 => ?_) (fun c51 => ?_)
          ·
            skip
            refine WR.region rfl ?_
            refine S.moveT rfl ?_
            first
              | refine S.addN rfl rfl rfl (by omega) ?_
              | refine S.add rfl rfl rfl ?_
            refine S.assignT rfl ?_
            refine WS.done ?_
            refine WR.region rfl ?_
            refine S.moveT rfl ?_
            first
              | refine S.addN rfl rfl rfl (by omega) ?_
              | refine S.add rfl rfl rfl ?_
            refine S.assignT rfl ?_
            refine WS.done ?_
            exact ⟨_, (by omega), ⟨i + 1, rfl, (by omega), (by first | exact congrArg (Value.int .i64) (clt_hit (getI hu41) (by omega)) | exact congrArg (Value.int .i64) (clt_miss (getI hu41) (by omega))), (by first | exact congrArg (Value.int .i64) (cnt_hit (getI hu41) (by omega)) | exact congrArg (Value.int .i64) (cnt_miss (getI hu41) (by omega))), rfl, ⟨rfl, rfl, rfl, rfl, rfl, trivial⟩, hS43⟩⟩
          ·
            skip
            refine WR.skip ?_
            refine WR.region rfl ?_
            refine S.moveT rfl ?_
            first
              | refine S.addN rfl rfl rfl (by omega) ?_
              | refine S.add rfl rfl rfl ?_
            refine S.assignT rfl ?_
            refine WS.done ?_
            exact ⟨_, (by omega), ⟨i + 1, rfl, (by omega), (by first | exact congrArg (Value.int .i64) (clt_hit (getI hu41) (by omega)) | exact congrArg (Value.int .i64) (clt_miss (getI hu41) (by omega))), (by first | exact congrArg (Value.int .i64) (cnt_hit (getI hu41) (by omega)) | exact congrArg (Value.int .i64) (cnt_miss (getI hu41) (by omega))), rfl, ⟨rfl, rfl, rfl, rfl, rfl, trivial⟩, hS43⟩⟩
        ·
          skip
          refine WR.skip ?_
          refine WR.seq ?_
          refine WR.region rfl ?_
          refine S.moveT rfl ?_
          refine S.moveT rfl ?_
          refine S.eql rfl rfl rfl ?_
          refine WS.done ?_
          refine WR.condD rfl (fun c51 => ?_) (fun c51 => ?_)
          ·
            skip
            refine WR.region rfl ?_
            refine S.moveT rfl ?_
            first
              | refine S.addN rfl rfl rfl (by omega) ?_
              | refine S.add rfl rfl rfl ?_
            refine S.assignT rfl ?_
            refine WS.done ?_
            refine WR.region rfl ?_
            refine S.moveT rfl ?_
            first
              | refine S.addN rfl rfl rfl (by omega) ?_
              | refine S.add rfl rfl rfl ?_
            refine S.assignT rfl ?_
            refine WS.done ?_
            exact ⟨_, (by omega), ⟨i + 1, rfl, (by omega), (by first | exact congrArg (Value.int .i64) (clt_hit (getI hu41) (by omega)) | exact congrArg (Value.int .i64) (clt_miss (getI hu41) (by omega))), (by first | exact congrArg (Value.int .i64) (cnt_hit (getI hu41) (by omega)) | exact congrArg (Value.int .i64) (cnt_miss (getI hu41) (by omega))), rfl, ⟨rfl, rfl, rfl, rfl, rfl, trivial⟩, hS43⟩⟩
          ·
            skip
            refine WR.skip ?_
            refine WR.region rfl ?_
            refine S.moveT rfl ?_
            first
              | refine S.addN rfl rfl rfl (by omega) ?_
              | refine S.add rfl rfl rfl ?_
            refine S.assignT rfl ?_
            refine WS.done ?_
            exact ⟨_, (by omega), ⟨i + 1, rfl, (by omega), (by first | exact congrArg (Value.int .i64) (clt_hit (getI hu41) (by omega)) | exact congrArg (Value.int .i64) (clt_miss (getI hu41) (by omega))), (by first | exact congrArg (Value.int .i64) (cnt_hit (getI hu41) (by omega)) | exact congrArg (Value.int .i64) (cnt_miss (getI hu41) (by omega))), rfl, ⟨rfl, rfl, rfl, rfl, rfl, trivial⟩, hS43⟩⟩
      ·
        skip
        refine WR.exit ?_
        refine WR.seq ?_
        refine WR.region rfl ?_
        rw [List.take_of_length_le (by omega)] at *
        have hcl := clt_le (b := b) (xs := xs)
        have hcn := cnt_le (k := b) (xs := xs)
        have hcn0 := cnt_nonneg (k := b) (xs := xs)
        refine S.moveT rfl ?_
        refine S.notD rfl rfl ?_
        refine S.isFD (d := 55) rfl (by omega) ?_
        refine S.moveT rfl ?_
        refine S.moveT rfl ?_
        refine S.moveT rfl ?_
        refine S.lss rfl rfl rfl ?_
        refine S.isFD (d := 59) rfl (by omega) ?_
        refine S.pickF rfl rfl ?_
        refine S.moveT rfl ?_
        refine S.moveT rfl ?_
        refine S.moveT rfl ?_
        refine S.moveT rfl ?_
        first
          | refine S.addN rfl rfl rfl (by omega) ?_
          | refine S.add rfl rfl rfl ?_
        refine S.geq rfl rfl rfl ?_
        refine S.isFD (d := 66) rfl (by omega) ?_
        refine S.pickF rfl rfl ?_
        refine WS.done ?_
        refine WR.condF rfl ?_
        refine WR.skip ?_
        refine WR.region rfl ?_
        refine S.moveT rfl ?_
        first
          | refine S.addN rfl rfl rfl (by omega) ?_
          | refine S.add rfl rfl rfl ?_
        refine S.assignT rfl ?_
        refine WS.done ?_
        exact ⟨_, (by omega), ⟨k + 1, rfl, (by omega), rfl, ⟨rfl, rfl, trivial⟩, hS1002⟩⟩
    ·
      skip
      refine WR.exit ?_
      refine WR.seq ?_
      refine WR.regionW (fun j => false) 10 rfl mixed hS1001 ?_
      intro w6003 hS6003; clear hS1001; have hC := hS6003
      refine WA.take (fuel := 9) 0 rfl (by kernel_rfl) (by kernel_rfl) (by kernel_rfl) (by kernel_rfl) rfl rfl hC ?_
      refine Q.loadArr (i := 0) rfl Try.underlying26 ti26 (by first | assumption | exact rfl | exact tab_len | exact ofL_len | exact mrg_len | exact mixL_len | exact halfL_len | (rw [List.length_set]; first | assumption | exact ofL_len | exact mixL_len | exact halfL_len)) rfl rfl ?_
      refine WQ.done ?_
      refine WA.take (fuel := 8) 1 rfl (by kernel_rfl) (by kernel_rfl) (by kernel_rfl) (by kernel_rfl) rfl rfl hC ?_
      refine Q.moveT rfl ?_
      refine WQ.done ?_
      refine WA.one (fuel := 7) 2 rfl (by kernel_rfl) rfl ?_
      refine S.lenSl Try.underlying22 rfl rfl ?_
      refine WS.done ⟨fun _ => hS6003, ?_⟩
      replace hC := hS6003
      refine WA.one (fuel := 6) 3 rfl (by kernel_rfl) rfl ?_
      refine S.call ent22 rfl (w_of hS6003 (by unfold fits; omega)) rfl ?_
      rintro _ w72 ⟨rfl, hS72⟩
      clear hS6003
      refine WS.done ⟨fun _ => hS72, ?_⟩
      replace hC := hS72
      refine WA.one (fuel := 5) 4 rfl (by kernel_rfl) rfl ?_
      refine S.call ent19 rfl (h_rank hS72 (by exact ofL_len) (by exact ofL_fits hm) (by exact w_fits _) (by exact (w_range _).2)) rfl ?_
      rintro _ w73 ⟨x73, rfl, hK73, hS73⟩
      clear hS72
      rw [w_back (by omega)] at hK73
      refine WS.done ⟨fun _ => hS73, ?_⟩
      replace hC := hS73
      refine WA.take (fuel := 4) 5 rfl (by kernel_rfl) (by kernel_rfl) (by kernel_rfl) (by kernel_rfl) rfl rfl hC ?_
      refine Q.moveT rfl ?_
      refine WQ.done ?_
      refine WA.take (fuel := 3) 6 rfl (by kernel_rfl) (by kernel_rfl) (by kernel_rfl) (by kernel_rfl) rfl rfl hC ?_
      refine Q.extract rfl rfl rfl ?_
      refine WQ.done ?_
      refine WA.take (fuel := 2) 7 rfl (by kernel_rfl) (by kernel_rfl) (by kernel_rfl) (by kernel_rfl) rfl rfl hC ?_
      refine Q.extract rfl rfl rfl ?_
      refine WQ.done ?_
      refine WA.take (fuel := 1) 8 rfl (by kernel_rfl) (by kernel_rfl) (by kernel_rfl) (by kernel_rfl) rfl rfl hC ?_
      refine Q.assignT rfl ?_
      refine WQ.done ?_
      refine WA.take (fuel := 0) 9 rfl (by kernel_rfl) (by kernel_rfl) (by kernel_rfl) (by kernel_rfl) rfl rfl hC ?_
      refine Q.assignT rfl ?_
      refine WQ.done ?_
      refine WA.done (by kernel_rfl) ?_
      clear hC
      refine WR.seq ?_
      obtain rfl := rank_none hf hK73
      refine WR.region rfl ?_
      refine S.moveT rfl ?_
      refine S.notD rfl rfl ?_
      refine S.assignT rfl ?_
      refine WS.done ?_
      refine WR.ret (ret1 rfl rfl ?_)
      exact ⟨rfl, hS73.drop⟩


end Go.Proofs.Ytmmdbincgianaaa.B

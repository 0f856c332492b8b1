import Derived.Test.YtmmdbincgianaaaWalkB
namespace Go.Proofs.Ytmmdbincgianaaa.B
open Go.Proofs Go.RowKit
set_option linter.unusedVariables false
set_option linter.unusedSimpArgs false
set_option maxRecDepth 100000 in
set_option maxHeartbeats 4000000 in
theorem h_merge {w : World} {R : Kn} {L : List HP}  (hS : St w R (L)) {v0 : Value} {rows : List (List Int)} (h0 : Ro R encA 65 v0 rows) (hf : ∀ h ∈ rows, ∀ x ∈ h, fits x) (hm : rows.length ≤ 1000000) :
    Fn Try.prog 11 #[v0] w (fun v w' => v = .tuple #[aV (mrg rows).1, .int .i64 (mrg rows).2] ∧ St w' R L) := by
  have hrl := rows_len h0
  obtain ⟨a0, c0, rfl, hl0⟩ := h0.len
  refine Fn.intro (n := 53) Try.func11 rfl rfl rfl ?_
  refine WR.seq ?_
  refine WR.region rfl ?_
  refine S.alloc (cs := aI (List.replicate 65 0)) hS ti26 rfl rfl ?_
  intro b2 w2 hS2; clear hS
  refine S.assignC rfl ?_
  refine WS.done ?_
  refine WR.seq ?_
  refine WR.seq ?_
  refine WR.region rfl ?_
  refine S.moveT rfl ?_
  refine S.lenSl Try.underlying29 rfl rfl ?_
  refine S.moveC rfl ?_
  refine WS.done ?_
  refine WR.block ?_
  refine WR.loopE (fun rq mm rr wr => ∃ (i : Nat), mm = rows.length - i ∧ (i ≤ rows.length ∧ ∀ h ∈ rows.take i, rgt h) ∧ rr 15 = .int .i64 (i : Int) ∧ Agr [0, 2, 13, 14] rr rq ∧ St wr R (blk b2 (.cells (aI zA) 26 (0, 0)) :: L)) ⟨0, rfl, (by exact ⟨by omega, fun x h => by simp at h⟩), rfl, ⟨rfl, rfl, rfl, rfl, trivial⟩, hS2⟩ ?_
  rintro mm rr w1001 ⟨i, hm1001, ⟨hi, hall⟩, hr1001_15, hA1001, hS1001⟩
  obtain ⟨rr, rfl⟩ := agrBack hA1001
  clear hA1001
  obtain ⟨rr, rfl⟩ := back1 (r := rr) hr1001_15
  clear hr1001_15
  refine WR.seq ?_
  refine WR.region rfl ?_
  refine S.lss rfl rfl rfl ?_
  refine WS.done ?_
  refine WR.seq ?_
  refine WR.condD rfl (fun c16 => ?_) (fun c16 => ?_)
  ·
    skip
    refine WR.skip ?_
    refine WR.seq ?_
    refine WR.block ?_
    refine WR.seq ?_
    refine WR.region rfl ?_
    refine S.indexRo h0 Try.underlying29 ti26 rfl rfl (by omega) rfl ?_
    intro ad17 u17 hu17 hl17 hc17
    refine S.loadEltA hS1001 hc17 hl17 Try.underlying26 ti26 rfl rfl ?_
    have hul := hrl _ (List.mem_of_getElem? hu17)
    have huf := hf _ (List.mem_of_getElem? hu17)
    refine S.alloc (cs := aI (List.replicate 65 0)) hS1001 ti26 rfl rfl ?_
    intro b5 w5 hS5; clear hS1001
    refine S.storeArr (i := 0) hS5 rfl ti26 (by first | assumption | exact rfl | exact tab_len | exact ofL_len | exact mrg_len | exact mixL_len | exact halfL_len | (rw [List.length_set]; first | assumption | exact ofL_len | exact mixL_len | exact halfL_len)) (by first | assumption | exact rfl | exact tab_len | exact ofL_len | exact mrg_len | exact mixL_len | exact halfL_len | (rw [List.length_set]; first | assumption | exact ofL_len | exact mixL_len | exact halfL_len)) rfl rfl rfl ?_
    intro w2001 hS2001; clear hS5
    refine WS.done ?_
    refine WR.seq ?_
    refine WR.region rfl ?_
    refine S.loadArr (i := 0) hS2001 rfl Try.underlying26 ti26 (by first | assumption | exact rfl | exact tab_len | exact ofL_len | exact mrg_len | exact mixL_len | exact halfL_len | (rw [List.length_set]; first | assumption | exact ofL_len | exact mixL_len | exact halfL_len)) rfl rfl ?_
    refine S.call ent28 rfl (h_right hS2001 (by exact hul)) rfl ?_
    rintro _ w20 ⟨rfl, hS20⟩
    clear hS2001
    refine S.notD rfl rfl ?_
    refine WS.done ?_
    refine WR.condD rfl (fun c21 => ?_) (fun c21 => ?_)
    ·
      skip
      refine WR.seq ?_
      refine WR.region rfl ?_
      refine S.buildZero (cs := aI (List.replicate 65 0)) ti26 rfl (by kernel_rfl) rfl ?_
      refine S.storeArr (i := 1) hS20 rfl ti26 (by first | assumption | exact rfl | exact tab_len | exact ofL_len | exact mrg_len | exact mixL_len | exact halfL_len | (rw [List.length_set]; first | assumption | exact ofL_len | exact mixL_len | exact halfL_len)) (by first | assumption | exact rfl | exact tab_len | exact ofL_len | exact mrg_len | exact mixL_len | exact halfL_len | (rw [List.length_set]; first | assumption | exact ofL_len | exact mixL_len | exact halfL_len)) rfl rfl rfl ?_
      intro w2002 hS2002; clear hS20
      refine S.assignC rfl ?_
      refine WS.done ?_
      refine WR.ret (retC1 rfl rfl (run_loadArr (i := 1) hS2002 rfl Try.underlying26 ti26 (by first | assumption | exact rfl | exact tab_len | exact ofL_len | exact mrg_len | exact mixL_len | exact halfL_len | (rw [List.length_set]; first | assumption | exact ofL_len | exact mixL_len | exact halfL_len))) rfl ?_)
      rw [mrg_form (List.mem_of_getElem? hu17) (by simpa using c21)]
      exact ⟨rfl, hS2002.drop.drop⟩
    ·
      skip
      refine WR.skip ?_
      refine WR.region rfl ?_
      first
        | refine S.addN rfl rfl rfl (by omega) ?_
        | refine S.add rfl rfl rfl ?_
      refine S.moveT rfl ?_
      refine WS.done ?_
      exact ⟨_, (by omega), ⟨i + 1, rfl, (by exact ⟨by omega, allT hall (getI hu17) (by simpa using c21)⟩), rfl, ⟨rfl, rfl, rfl, rfl, trivial⟩, hS20.drop⟩⟩
  ·
    skip
    refine WR.exit ?_
    refine WR.seq ?_
    rw [List.take_of_length_le (by omega)] at hall
    refine WR.region rfl ?_
    refine S.alloc (cs := aI (List.replicate 65 0)) hS1001 ti26 rfl rfl ?_
    intro b6 w6 hS6; clear hS1001
    refine WS.done ?_
    refine WR.seq ?_
    refine WR.seq ?_
    refine WR.region rfl ?_
    refine S.moveT rfl ?_
    refine S.lenSl Try.underlying29 rfl rfl ?_
    refine S.moveC rfl ?_
    refine WS.done ?_
    refine WR.block ?_
    refine WR.loopE (fun rq mm rr wr => ∃ (i : Nat), mm = rows.length - i ∧ (i ≤ rows.length ∧ ∀ k < 65, col (rows.take i) k ≤ 9223372036854775807) ∧ rr 26 = .int .i64 (i : Int) ∧ Agr [2, 6, 24, 25] rr rq ∧ St wr R (blk b6 (.cells (aI (sumL (rows.take i))) 26 (0, 0)) :: blk b2 (.cells (aI zA) 26 (0, 0)) :: L)) ⟨0, rfl, (by exact ⟨by omega, fun k hk => by rw [show rows.take 0 = [] from rfl, col_nil]; decide⟩), rfl, ⟨rfl, rfl, rfl, rfl, trivial⟩, (by rw [show sumL (rows.take 0) = zA from zA_tab.symm]; exact hS6)⟩ ?_
    rintro mm rr w1002 ⟨i, hm1002, ⟨hi, hc⟩, hr1002_26, hA1002, hS1002⟩
    obtain ⟨rr, rfl⟩ := agrBack hA1002
    clear hA1002
    obtain ⟨rr, rfl⟩ := back1 (r := rr) hr1002_26
    clear hr1002_26
    refine WR.seq ?_
    refine WR.region rfl ?_
    refine S.lss rfl rfl rfl ?_
    refine WS.done ?_
    refine WR.seq ?_
    refine WR.condD rfl (fun c27 => ?_) (fun c27 => ?_)
    ·
      skip
      refine WR.skip ?_
      refine WR.seq ?_
      refine WR.block ?_
      refine WR.seq ?_
      refine WR.region rfl ?_
      refine S.indexRo h0 Try.underlying29 ti26 rfl rfl (by omega) rfl ?_
      intro ad28 u28 hu28 hl28 hc28
      refine S.loadEltA hS1002 hc28 hl28 Try.underlying26 ti26 rfl rfl ?_
      have hul := hrl _ (List.mem_of_getElem? hu28)
      have huf := hf _ (List.mem_of_getElem? hu28)
      refine S.alloc (cs := aI (List.replicate 65 0)) hS1002 ti26 rfl rfl ?_
      intro b8 w8 hS8; clear hS1002
      refine S.storeArr (i := 0) hS8 rfl ti26 (by first | assumption | exact rfl | exact tab_len | exact ofL_len | exact mrg_len | exact mixL_len | exact halfL_len | (rw [List.length_set]; first | assumption | exact ofL_len | exact mixL_len | exact halfL_len)) (by first | assumption | exact rfl | exact tab_len | exact ofL_len | exact mrg_len | exact mixL_len | exact halfL_len | (rw [List.length_set]; first | assumption | exact ofL_len | exact mixL_len | exact halfL_len)) rfl rfl rfl ?_
      intro w2003 hS2003; clear hS8
      refine WS.done ?_
      refine WR.seq ?_
      refine WR.region rfl ?_
      refine S.loadArr (i := 0) hS2003 rfl Try.underlying26 ti26 (by first | assumption | exact rfl | exact tab_len | exact ofL_len | exact mrg_len | exact mixL_len | exact halfL_len | (rw [List.length_set]; first | assumption | exact ofL_len | exact mixL_len | exact halfL_len)) rfl rfl ?_
      refine S.moveC rfl ?_
      refine WS.done ?_
      refine WR.block ?_
      refine WR.loopE (fun rq mm rr wr => ∃ (k : Nat), mm = 65 - k ∧ (k ≤ 65 ∧ ∀ j < k, col (rows.take (i + 1)) j ≤ 9223372036854775807) ∧ rr 31 = .int .i64 (k : Int) ∧ Agr [2, 6, 24, 25, 26, 30] rr rq ∧ St wr R (blk b8 (.cells (aI u28) 26 (0, 0)) :: blk b6 (.cells (aI (mixL rows i k)) 26 (0, 0)) :: blk b2 (.cells (aI zA) 26 (0, 0)) :: L)) ⟨0, rfl, (by exact ⟨by omega, fun j hj => absurd hj (by omega)⟩), rfl, ⟨rfl, rfl, rfl, rfl, rfl, rfl, trivial⟩, (by rw [mixL_zero]; exact hS2003)⟩ ?_
      rintro mm rr w1003 ⟨k, hm1003, ⟨hk, hd⟩, hr1003_31, hA1003, hS1003⟩
      obtain ⟨rr, rfl⟩ := agrBack hA1003
      clear hA1003
      obtain ⟨rr, rfl⟩ := back1 (r := rr) hr1003_31
      clear hr1003_31
      refine WR.seq ?_
      refine WR.region rfl ?_
      refine S.lss rfl rfl rfl ?_
      refine WS.done ?_
      refine WR.seq ?_
      refine WR.condD rfl (fun c32 => ?_) (fun c32 => ?_)
      ·
        skip
        refine WR.skip ?_
        refine WR.seq ?_
        refine WR.block ?_
        refine WR.seq ?_
        refine WR.region rfl ?_
        refine S.moveT rfl ?_
        refine S.ixValG Try.underlying26 Try.underlying2 rfl ti2 rfl rfl (by first | assumption | exact rfl | exact tab_len | exact ofL_len | exact mrg_len | exact mixL_len | exact halfL_len | (rw [List.length_set]; first | assumption | exact ofL_len | exact mixL_len | exact halfL_len)) (by omega) rfl ?_
        first | refine S.as (d := 34) rfl (congrArg (Value.int .i64) gd_nat) ?_ | skip
        refine S.assignT rfl ?_
        refine S.assignT rfl ?_
        refine WS.done ?_
        refine WR.seq ?_
        refine WR.region rfl ?_
        refine S.moveT rfl ?_
        refine S.ixArr Try.underlying26 ti2 rfl rfl (by omega) rfl ?_
        refine S.loadAtG (m := 65) (i := 1) hS1003 rfl Try.underlying2 rfl rfl (by first | assumption | exact rfl | exact tab_len | exact ofL_len | exact mrg_len | exact mixL_len | exact halfL_len | (rw [List.length_set]; first | assumption | exact ofL_len | exact mixL_len | exact halfL_len)) (by omega) rfl ?_
        first | refine S.as (d := 38) rfl (congrArg (Value.int .i64) gd_nat) ?_ | skip
        refine S.as (d := 38) rfl (congrArg (Value.int .i64) (mixL_get (show k < 65 by omega))) ?_
        have hz0 := col_nonneg (rows := rows.take i) (k := k) (fun x hx => hall x (List.mem_of_mem_take hx))
        have hz1 := hc k (by omega)
        have hz2 := huf _ (getD_mem (k := k) (show k < u28.length by omega))
        have hz3 := rgt_getD (hall _ (List.mem_of_getElem? hu28)) k
        refine S.moveT rfl ?_
        refine S.call ent29 rfl (s_add hS1003 (by unfold fits; omega) (by exact hz2)) rfl ?_
        rintro _ w40 ⟨rfl, hS40⟩
        clear hS1003
        obtain ⟨p40, e40, hv40, hF40⟩ := told_cases (col (rows.take i) k + u28.getD k 0)
        refine S.as (d := 40) rfl hv40 ?_
        refine S.moveT rfl ?_
        refine S.extract rfl rfl rfl ?_
        refine S.extract rfl rfl rfl ?_
        refine S.assignT rfl ?_
        refine S.assignT rfl ?_
        refine WS.done ?_
        refine WR.seq ?_
        refine WR.seq ?_
        refine WR.region rfl ?_
        refine S.moveT rfl ?_
        refine S.neq rfl rfl rfl ?_
        refine WS.done ?_
        refine WR.condD rfl (fun c44 => ?_) (fun c44 => ?_)
        ·
          skip
          refine WR.seq ?_
          refine WR.region rfl ?_
          refine S.buildZero (cs := aI (List.replicate 65 0)) ti26 rfl (by kernel_rfl) rfl ?_
          refine S.moveT rfl ?_
          refine S.storeArr (i := 2) hS40 rfl ti26 (by first | assumption | exact rfl | exact tab_len | exact ofL_len | exact mrg_len | exact mixL_len | exact halfL_len | (rw [List.length_set]; first | assumption | exact ofL_len | exact mixL_len | exact halfL_len)) (by first | assumption | exact rfl | exact tab_len | exact ofL_len | exact mrg_len | exact mixL_len | exact halfL_len | (rw [List.length_set]; first | assumption | exact ofL_len | exact mixL_len | exact halfL_len)) rfl rfl rfl ?_
          intro w2004 hS2004; clear hS40
          refine S.assignT rfl ?_
          refine WS.done ?_
          refine WR.ret (retC1 rfl rfl (run_loadArr (i := 2) hS2004 rfl Try.underlying26 ti26 (by first | assumption | exact rfl | exact tab_len | exact ofL_len | exact mrg_len | exact mixL_len | exact halfL_len | (rw [List.length_set]; first | assumption | exact ofL_len | exact mixL_len | exact halfL_len))) rfl ?_)
          obtain ⟨hp, he⟩ : p40 = 0 ∧ e40 = 12 := by omega
          subst he
          rw [mrg_out hall (show k < 65 by omega) (Int.lt_of_lt_of_le (show 9223372036854775807 < col (rows.take (i + 1)) k by rw [take_snoc (getI hu28), col_snoc]; omega) (col_take hall))]
          exact ⟨rfl, hS2004.drop.drop.drop⟩
        ·
          skip
          refine WR.skip ?_
          refine WR.region rfl ?_
          refine S.moveT rfl ?_
          refine S.moveT rfl ?_
          refine S.ixArr Try.underlying26 ti2 rfl rfl (by omega) rfl ?_
          refine S.storeAtG (m := 65) (i := 1) hS40 rfl ti2 rfl rfl (by first | assumption | exact rfl | exact tab_len | exact ofL_len | exact mrg_len | exact mixL_len | exact halfL_len | (rw [List.length_set]; first | assumption | exact ofL_len | exact mixL_len | exact halfL_len)) (by omega) rfl ?_
          intro w2005 hS2005; clear hS40
          refine WS.done ?_
          refine WR.region rfl ?_
          first
            | refine S.addN rfl rfl rfl (by omega) ?_
            | refine S.add rfl rfl rfl ?_
          refine S.moveT rfl ?_
          refine WS.done ?_
          exact ⟨_, (by omega), ⟨k + 1, rfl, (by exact ⟨by omega, all_succ hd (by rw [take_snoc (getI hu28), col_snoc]; omega)⟩), rfl, ⟨rfl, rfl, rfl, rfl, rfl, rfl, trivial⟩, (by rw [← mixL_step (getI hu28), show col (rows.take i) k + u28.getD k 0 = p40 by omega]; exact hS2005)⟩⟩
      ·
        skip
        refine WR.exit ?_
        obtain rfl : k = 65 := by omega
        rw [mixL_end] at hS1003
        refine WR.region rfl ?_
        first
          | refine S.addN rfl rfl rfl (by omega) ?_
          | refine S.add rfl rfl rfl ?_
        refine S.moveT rfl ?_
        refine WS.done ?_
        exact ⟨_, (by omega), ⟨i + 1, rfl, (by exact ⟨by omega, hd⟩), rfl, ⟨rfl, rfl, rfl, rfl, trivial⟩, hS1003.drop⟩⟩
    ·
      skip
      refine WR.exit ?_
      refine WR.seq ?_
      refine WR.region rfl ?_
      refine S.loadArr (i := 0) hS1002 rfl Try.underlying26 ti26 (by first | assumption | exact rfl | exact tab_len | exact ofL_len | exact mrg_len | exact mixL_len | exact halfL_len | (rw [List.length_set]; first | assumption | exact ofL_len | exact mixL_len | exact halfL_len)) rfl rfl ?_
      refine S.storeArr (i := 1) hS1002 rfl ti26 (by first | assumption | exact rfl | exact tab_len | exact ofL_len | exact mrg_len | exact mixL_len | exact halfL_len | (rw [List.length_set]; first | assumption | exact ofL_len | exact mixL_len | exact halfL_len)) (by first | assumption | exact rfl | exact tab_len | exact ofL_len | exact mrg_len | exact mixL_len | exact halfL_len | (rw [List.length_set]; first | assumption | exact ofL_len | exact mixL_len | exact halfL_len)) rfl rfl rfl ?_
      intro w2006 hS2006; clear hS1002
      refine S.assignC rfl ?_
      refine WS.done ?_
      refine WR.ret (retC1 rfl rfl (run_loadArr (i := 1) hS2006 rfl Try.underlying26 ti26 (by first | assumption | exact rfl | exact tab_len | exact ofL_len | exact mrg_len | exact mixL_len | exact halfL_len | (rw [List.length_set]; first | assumption | exact ofL_len | exact mixL_len | exact halfL_len))) rfl ?_)
      rw [List.take_of_length_le (by omega)] at *
      rw [mrg_in hall hc]
      exact ⟨rfl, hS2006.drop.drop⟩

set_option maxRecDepth 100000 in
set_option maxHeartbeats 4000000 in
theorem h5_merge {w : World} {R : Kn} {L : List HP}  (hS : St w R (L)) {v0 : Value} {rows : List (List Int)} (h0 : Ro R encA 65 v0 rows) (hf : ∀ h ∈ rows, ∀ x ∈ h, fits x) (hm : rows.length ≤ 1000000) :
    Fn Try.prog 12 #[v0] w (fun v w' => v = .tuple #[aV (mrg rows).1, .int .i64 (mrg rows).2] ∧ St w' R L) := by
  have hrl := rows_len h0
  obtain ⟨a0, c0, rfl, hl0⟩ := h0.len
  refine Fn.intro (n := 58) Try.func12 rfl rfl rfl ?_
  refine WR.seq ?_
  refine WR.region rfl ?_
  refine S.alloc (cs := aI (List.replicate 65 0)) hS ti25 rfl rfl ?_
  intro b2 w2 hS2; clear hS
  refine S.assignC rfl ?_
  refine WS.done ?_
  refine WR.seq ?_
  refine WR.region rfl ?_
  refine S.buildZero (cs := aI (List.replicate 65 0)) ti25 rfl (by kernel_rfl) rfl ?_
  refine S.alloc (cs := aI (List.replicate 65 0)) hS2 ti25 rfl rfl ?_
  intro b4 w4 hS4; clear hS2
  refine S.storeArr (i := 0) hS4 rfl ti25 (by first | assumption | exact rfl | exact tab_len | exact ofL_len | exact mrg_len | exact mixL_len | exact halfL_len | (rw [List.length_set]; first | assumption | exact ofL_len | exact mixL_len | exact halfL_len)) (by first | assumption | exact rfl | exact tab_len | exact ofL_len | exact mrg_len | exact mixL_len | exact halfL_len | (rw [List.length_set]; first | assumption | exact ofL_len | exact mixL_len | exact halfL_len)) rfl rfl rfl ?_
  intro w2001 hS2001; clear hS4
  refine WS.done ?_
  refine WR.seq ?_
  refine WR.seq ?_
  refine WR.region rfl ?_
  refine S.assignC rfl ?_
  refine WS.done ?_
  refine WR.block ?_
  refine WR.loopE (fun rq mm rr wr => ∃ (i : Nat), mm = rows.length - i ∧ (i ≤ rows.length ∧ ∀ h ∈ rows.take i, rgt h) ∧ rr 5 = .int .i64 (i : Int) ∧ Agr [0, 2, 4] rr rq ∧ St wr R (blk b4 (.cells (aI zA) 25 (0, 0)) :: blk b2 (.cells (aI zA) 25 (0, 0)) :: L)) ⟨0, rfl, (by exact ⟨by omega, fun x h => by simp at h⟩), rfl, ⟨rfl, rfl, rfl, trivial⟩, hS2001⟩ ?_
  rintro mm rr w1001 ⟨i, hm1001, ⟨hi, hall⟩, hr1001_5, hA1001, hS1001⟩
  obtain ⟨rr, rfl⟩ := agrBack hA1001
  clear hA1001
  obtain ⟨rr, rfl⟩ := back1 (r := rr) hr1001_5
  clear hr1001_5
  refine WR.seq ?_
  refine WR.seq ?_
  refine WR.region rfl ?_
  refine S.moveT rfl ?_
  refine S.moveT rfl ?_
  refine S.lenSl Try.underlying23 rfl rfl ?_
  refine S.lss rfl rfl rfl ?_
  refine WS.done ?_
  refine WR.condD rfl (fun c15 => ?_) (fun c15 => ?_)
  ·
    skip
    refine WR.skip ?_
    refine WR.seq ?_
    refine WR.block ?_
    refine WR.seq ?_
    refine WR.region rfl ?_
    refine S.moveT rfl ?_
    refine S.moveT rfl ?_
    refine S.indexRo h0 Try.underlying23 ti25 rfl rfl (by omega) rfl ?_
    intro ad20 u20 hu20 hl20 hc20
    refine S.loadEltA hS1001 hc20 hl20 Try.underlying25 ti25 rfl rfl ?_
    have hul := hrl _ (List.mem_of_getElem? hu20)
    have huf := hf _ (List.mem_of_getElem? hu20)
    refine S.call ent30 rfl (h5_right hS1001 (by exact hul)) rfl ?_
    rintro _ w22 ⟨rfl, hS22⟩
    clear hS1001
    refine S.notD rfl rfl ?_
    refine WS.done ?_
    refine WR.condD rfl (fun c23 => ?_) (fun c23 => ?_)
    ·
      skip
      refine WR.seq ?_
      refine WR.region rfl ?_
      refine S.buildZero (cs := aI (List.replicate 65 0)) ti25 rfl (by kernel_rfl) rfl ?_
      refine S.storeArr (i := 1) hS22 rfl ti25 (by first | assumption | exact rfl | exact tab_len | exact ofL_len | exact mrg_len | exact mixL_len | exact halfL_len | (rw [List.length_set]; first | assumption | exact ofL_len | exact mixL_len | exact halfL_len)) (by first | assumption | exact rfl | exact tab_len | exact ofL_len | exact mrg_len | exact mixL_len | exact halfL_len | (rw [List.length_set]; first | assumption | exact ofL_len | exact mixL_len | exact halfL_len)) rfl rfl rfl ?_
      intro w2002 hS2002; clear hS22
      refine S.assignC rfl ?_
      refine WS.done ?_
      refine WR.ret (retC1 rfl rfl (run_loadArr (i := 1) hS2002 rfl Try.underlying25 ti25 (by first | assumption | exact rfl | exact tab_len | exact ofL_len | exact mrg_len | exact mixL_len | exact halfL_len | (rw [List.length_set]; first | assumption | exact ofL_len | exact mixL_len | exact halfL_len))) rfl ?_)
      rw [mrg_form (List.mem_of_getElem? hu20) (by simpa using c23)]
      exact ⟨rfl, hS2002.drop.drop⟩
    ·
      skip
      refine WR.skip ?_
      refine WR.region rfl ?_
      refine S.moveT rfl ?_
      first
        | refine S.addN rfl rfl rfl (by omega) ?_
        | refine S.add rfl rfl rfl ?_
      refine S.assignT rfl ?_
      refine WS.done ?_
      exact ⟨_, (by omega), ⟨i + 1, rfl, (by exact ⟨by omega, allT hall (getI hu20) (by simpa using c23)⟩), rfl, ⟨rfl, rfl, rfl, trivial⟩, hS22⟩⟩
  ·
    skip
    refine WR.exit ?_
    refine WR.seq ?_
    refine WR.seq ?_
    rw [List.take_of_length_le (by omega)] at hall
    refine WR.region rfl ?_
    refine S.assignC rfl ?_
    refine WS.done ?_
    refine WR.block ?_
    refine WR.loopE (fun rq mm rr wr => ∃ (k : Nat) (Rk : Kn), mm = 65 - k ∧ (k ≤ 65 ∧ (∀ j < k, col rows j ≤ 9223372036854775807) ∧ R.le Rk) ∧ rr 6 = .int .i64 (k : Int) ∧ Agr [0, 2, 4] rr rq ∧ St wr Rk (blk b4 (.cells (aI (halfL rows k)) 25 (0, 0)) :: blk b2 (.cells (aI zA) 25 (0, 0)) :: L)) ⟨0, R, rfl, (by exact ⟨by omega, fun j hj => absurd hj (by omega), Kn.le.refl _⟩), rfl, ⟨rfl, rfl, rfl, trivial⟩, (by rw [halfL_zero]; exact hS1001)⟩ ?_
    rintro mm rr w1002 ⟨k, Rk, hm1002, ⟨hk, hd, hRk⟩, hr1002_6, hA1002, hS1002⟩
    obtain ⟨rr, rfl⟩ := agrBack hA1002
    clear hA1002
    obtain ⟨rr, rfl⟩ := back1 (r := rr) hr1002_6
    clear hr1002_6
    have h0 := h0.mono hRk
    refine WR.seq ?_
    refine WR.seq ?_
    refine WR.region rfl ?_
    refine S.moveT rfl ?_
    refine S.lss rfl rfl rfl ?_
    refine WS.done ?_
    refine WR.condD rfl (fun c26 => ?_) (fun c26 => ?_)
    ·
      skip
      refine WR.skip ?_
      refine WR.seq ?_
      refine WR.block ?_
      refine WR.seq ?_
      refine WR.region rfl ?_
      first
        | refine S.buildRow (vs := []) hS1002 Try.underlying22 ti2 rfl rfl rfl rfl rfl rfl rfl ?_
        | refine S.buildRow hS1002 Try.underlying22 ti2 rfl rfl rfl rfl rfl rfl rfl ?_
      intro b29 w29 hS29; clear hS1002
      have hSo := hS29.ownRow (enc := encI .i64) (n := 1) ((rows.take 0).map (fun h => h.getD k 0)) rfl (fun _ h => by cases h) (by simp)
      refine S.assignT rfl ?_
      refine WS.done ?_
      refine WR.seq ?_
      refine WR.seq ?_
      refine WR.region rfl ?_
      refine S.assignC rfl ?_
      refine WS.done ?_
      refine WR.block ?_
      refine WR.loopE (fun rq mm rr wr => ∃ (i : Nat) (v7 : Value), mm = rows.length - i ∧ (i ≤ rows.length) ∧ rr 7 = v7 ∧ rr 8 = .int .i64 (i : Int) ∧ Agr [0, 2, 4, 6] rr rq ∧ St wr Rk (Ow 2 (encI .i64) 1 v7 ((rows.take i).map (fun h => h.getD k 0)) :: blk b4 (.cells (aI (halfL rows k)) 25 (0, 0)) :: blk b2 (.cells (aI zA) 25 (0, 0)) :: L)) ⟨0, _, rfl, (by omega), rfl, rfl, ⟨rfl, rfl, rfl, rfl, trivial⟩, hSo⟩ ?_
      rintro mm rr w1003 ⟨i, v7, hm1003, hi, hr1003_7, hr1003_8, hA1003, hS1003⟩
      obtain ⟨rr, rfl⟩ := agrBack hA1003
      clear hA1003
      obtain ⟨rr, rfl⟩ := back2 (r := rr) hr1003_7 hr1003_8
      clear hr1003_7 hr1003_8
      refine WR.seq ?_
      refine WR.seq ?_
      refine WR.region rfl ?_
      refine S.moveT rfl ?_
      refine S.moveT rfl ?_
      refine S.lenSl Try.underlying23 rfl rfl ?_
      refine S.lss rfl rfl rfl ?_
      refine WS.done ?_
      refine WR.condD rfl (fun c33 => ?_) (fun c33 => ?_)
      ·
        skip
        refine WR.skip ?_
        refine WR.seq ?_
        refine WR.block ?_
        refine WR.region rfl ?_
        refine S.moveT rfl ?_
        refine S.moveT rfl ?_
        refine S.moveT rfl ?_
        refine S.moveT rfl ?_
        refine S.indexRo h0 Try.underlying23 ti25 rfl rfl (by omega) rfl ?_
        intro ad40 u40 hu40 hl40 hc40
        have hul := hrl _ (List.mem_of_getElem? hu40)
        refine S.ixElt Try.underlying25 ti2 rfl rfl (by omega) rfl ?_
        refine S.loadEltAt (m := 65) hS1003 hc40 Try.underlying2 rfl rfl (by first | assumption | exact rfl | exact tab_len | exact ofL_len | exact mrg_len | exact mixL_len | exact halfL_len | (rw [List.length_set]; first | assumption | exact ofL_len | exact mixL_len | exact halfL_len)) (by omega) rfl ?_
        first | refine S.as (d := 42) rfl (congrArg (Value.int .i64) gd_nat) ?_ | skip
        first
          | refine S.buildRow (vs := [.int _ _]) hS1003 Try.underlying22 ti2 rfl rfl rfl rfl rfl rfl rfl ?_
          | refine S.buildRow hS1003 Try.underlying22 ti2 rfl rfl rfl rfl rfl rfl rfl ?_
        intro b43 w43 hS43; clear hS1003
        refine S.appendTmp (i := 0) [u40.getD k 0] hS43 rfl rfl (fun _ _ => rfl) Try.underlying22 ti2 rfl rfl rfl rfl encI_one (by rw [List.length_map, List.length_take]; simp; omega) rfl ?_
        intro v44 w44 hS44; clear hS43
        refine S.assignT rfl ?_
        refine WS.done ?_
        refine WR.region rfl ?_
        refine S.moveT rfl ?_
        first
          | refine S.addN rfl rfl rfl (by omega) ?_
          | refine S.add rfl rfl rfl ?_
        refine S.assignT rfl ?_
        refine WS.done ?_
        exact ⟨_, (by omega), ⟨i + 1, v44, rfl, (by omega), rfl, rfl, ⟨rfl, rfl, rfl, rfl, trivial⟩, (by rw [take_snoc (getI hu40), List.map_append]; exact hS44)⟩⟩
      ·
        skip
        refine WR.exit ?_
        refine WR.seq ?_
        refine WR.region rfl ?_
        obtain ⟨R1, hR1, hroO, hSf⟩ := hS1003.freeze (fun _ _ => rfl)
        refine S.moveT rfl ?_
        refine S.call ent31 rfl (r_sum hSf (by exact hroO) (by exact colF hf hrl (by omega)) (by rw [List.length_map, List.length_take]; omega)) rfl ?_
        rintro _ w47 ⟨rfl, hS47⟩
        clear hSf
        obtain ⟨p47, e47, hv47, hF47⟩ := told_cases ((rows.take i).map (fun h => h.getD k 0)).sum
        refine S.as (d := 47) rfl hv47 ?_
        rw [List.take_of_length_le (show rows.length ≤ i by omega)] at hF47
        change _ ∨ _ at hF47
        refine S.moveT rfl ?_
        refine S.extract rfl rfl rfl ?_
        refine S.extract rfl rfl rfl ?_
        refine S.assignT rfl ?_
        refine S.assignT rfl ?_
        refine WS.done ?_
        refine WR.seq ?_
        refine WR.seq ?_
        refine WR.region rfl ?_
        refine S.moveT rfl ?_
        refine S.neq rfl rfl rfl ?_
        refine WS.done ?_
        refine WR.condD rfl (fun c51 => ?_) (fun c51 => ?_)
        ·
          skip
          refine WR.seq ?_
          refine WR.region rfl ?_
          refine S.buildZero (cs := aI (List.replicate 65 0)) ti25 rfl (by kernel_rfl) rfl ?_
          refine S.moveT rfl ?_
          refine S.storeArr (i := 1) hS47 rfl ti25 (by first | assumption | exact rfl | exact tab_len | exact ofL_len | exact mrg_len | exact mixL_len | exact halfL_len | (rw [List.length_set]; first | assumption | exact ofL_len | exact mixL_len | exact halfL_len)) (by first | assumption | exact rfl | exact tab_len | exact ofL_len | exact mrg_len | exact mixL_len | exact halfL_len | (rw [List.length_set]; first | assumption | exact ofL_len | exact mixL_len | exact halfL_len)) rfl rfl rfl ?_
          intro w2003 hS2003; clear hS47
          refine S.assignT rfl ?_
          refine WS.done ?_
          refine WR.ret (retC1 rfl rfl (run_loadArr (i := 1) hS2003 rfl Try.underlying25 ti25 (by first | assumption | exact rfl | exact tab_len | exact ofL_len | exact mrg_len | exact mixL_len | exact halfL_len | (rw [List.length_set]; first | assumption | exact ofL_len | exact mixL_len | exact halfL_len))) rfl ?_)
          obtain ⟨hp, he⟩ : p47 = 0 ∧ e47 = 12 := by omega
          subst he
          rw [mrg_out hall (show k < 65 by omega) (by have hce : col rows k = (rows.map (fun h => h.getD k 0)).sum := rfl; have hcn := col_nonneg (k := k) hall; omega)]
          exact ⟨rfl, hS2003.drop.drop.weak (hRk.trans hR1)⟩
        ·
          skip
          refine WR.skip ?_
          refine WR.region rfl ?_
          refine S.moveT rfl ?_
          refine S.moveT rfl ?_
          refine S.ixArr Try.underlying25 ti2 rfl rfl (by omega) rfl ?_
          refine S.storeAtG (m := 65) (i := 0) hS47 rfl ti2 rfl rfl (by first | assumption | exact rfl | exact tab_len | exact ofL_len | exact mrg_len | exact mixL_len | exact halfL_len | (rw [List.length_set]; first | assumption | exact ofL_len | exact mixL_len | exact halfL_len)) (by omega) rfl ?_
          intro w2004 hS2004; clear hS47
          refine WS.done ?_
          refine WR.region rfl ?_
          refine S.moveT rfl ?_
          first
            | refine S.addN rfl rfl rfl (by omega) ?_
            | refine S.add rfl rfl rfl ?_
          refine S.assignT rfl ?_
          refine WS.done ?_
          exact ⟨_, (by omega), ⟨k + 1, R1, rfl, (by exact ⟨by omega, all_succ hd (by have hce : col rows k = (rows.map (fun h => h.getD k 0)).sum := rfl; omega), hRk.trans hR1⟩), rfl, ⟨rfl, rfl, rfl, trivial⟩, (by rw [← halfL_step, show col rows k = p47 by have hce : col rows k = (rows.map (fun h => h.getD k 0)).sum := rfl; omega]; exact hS2004)⟩⟩
    ·
      skip
      refine WR.exit ?_
      refine WR.seq ?_
      refine WR.region rfl ?_
      refine S.loadArr (i := 0) hS1002 rfl Try.underlying25 ti25 (by first | assumption | exact rfl | exact tab_len | exact ofL_len | exact mrg_len | exact mixL_len | exact halfL_len | (rw [List.length_set]; first | assumption | exact ofL_len | exact mixL_len | exact halfL_len)) rfl rfl ?_
      refine S.storeArr (i := 1) hS1002 rfl ti25 (by first | assumption | exact rfl | exact tab_len | exact ofL_len | exact mrg_len | exact mixL_len | exact halfL_len | (rw [List.length_set]; first | assumption | exact ofL_len | exact mixL_len | exact halfL_len)) (by first | assumption | exact rfl | exact tab_len | exact ofL_len | exact mrg_len | exact mixL_len | exact halfL_len | (rw [List.length_set]; first | assumption | exact ofL_len | exact mixL_len | exact halfL_len)) rfl rfl rfl ?_
      intro w2005 hS2005; clear hS1002
      refine S.assignC rfl ?_
      refine WS.done ?_
      refine WR.ret (retC1 rfl rfl (run_loadArr (i := 1) hS2005 rfl Try.underlying25 ti25 (by first | assumption | exact rfl | exact tab_len | exact ofL_len | exact mrg_len | exact mixL_len | exact halfL_len | (rw [List.length_set]; first | assumption | exact ofL_len | exact mixL_len | exact halfL_len))) rfl ?_)
      obtain rfl : k = 65 := by omega
      rw [halfL_end, mrg_in hall hd]
      exact ⟨rfl, hS2005.drop.drop.weak hRk⟩

set_option maxRecDepth 100000 in
set_option maxHeartbeats 4000000 in
theorem h_add {w : World} {R : Kn} {L : List HP}  (hS : St w R (L)) {xs : List Int} (hl : xs.length = 65) (hf : ∀ x ∈ xs, fits x) {a : Int} (ha : fits a) :
    Fn Try.prog 14 #[aV xs, .int .i64 a] w (fun v w' => v = .tuple #[aV (mrg [xs, ofL [a]]).1, .int .i64 (mrg [xs, ofL [a]]).2] ∧ St w' R L) := by
  refine Fn.intro (n := 14) Try.func14 rfl rfl rfl ?_
  refine WR.seq ?_
  refine WR.region rfl ?_
  refine S.box (v := aV _) (cs := aI _) hS rfl rfl rfl ?_
  intro b2 w2 hS2; clear hS
  refine S.alloc (cs := aI (List.replicate 65 0)) hS2 ti26 rfl rfl ?_
  intro b4 w4 hS4; clear hS2
  refine S.assignC rfl ?_
  refine WS.done ?_
  refine WR.seq ?_
  refine WR.regionW (fun j => Nat.beq j 8 || Nat.beq j 9) 10 rfl mixed hS4 ?_
  intro w6001 hS6001; clear hS4; have hC := hS6001
  refine WA.take (fuel := 9) 0 rfl (by kernel_rfl) (by kernel_rfl) (by kernel_rfl) (by kernel_rfl) rfl rfl hC ?_
  refine Q.loadArr (i := 1) rfl Try.underlying26 ti26 (by first | assumption | exact rfl | exact tab_len | exact ofL_len | exact mrg_len | exact mixL_len | exact halfL_len | (rw [List.length_set]; first | assumption | exact ofL_len | exact mixL_len | exact halfL_len)) rfl rfl ?_
  refine WQ.done ?_
  refine WA.take (fuel := 8) 1 rfl (by kernel_rfl) (by kernel_rfl) (by kernel_rfl) (by kernel_rfl) rfl rfl hC ?_
  refine Q.moveT rfl ?_
  refine WQ.done ?_
  refine WA.one (fuel := 7) 2 rfl (by kernel_rfl) rfl ?_
  first
    | refine S.buildRow (vs := [.int _ _]) hS6001 Try.underlying22 ti2 rfl rfl rfl rfl rfl rfl rfl ?_
    | refine S.buildRow hS6001 Try.underlying22 ti2 rfl rfl rfl rfl rfl rfl rfl ?_
  intro b8 w8 hS8; clear hS6001
  obtain ⟨R8, hR8, hro8, hSf8⟩ := hS8.keepRow (enc := encI .i64) (n := 1) [a] rfl (fun _ _ => rfl)
  refine WS.done ⟨fun _ => (hSf8.weak hR8), ?_⟩
  replace hC := (hSf8.weak hR8)
  refine WA.one (fuel := 6) 3 rfl (by kernel_rfl) rfl ?_
  refine S.call ent9 rfl (h_of hSf8 (by exact hro8) (by simpa using ha) (by simp)) rfl ?_
  rintro _ w9 ⟨rfl, hS9⟩
  clear hSf8
  refine WS.done ⟨fun _ => (hS9.weak hR8), ?_⟩
  replace hC := (hS9.weak hR8)
  refine WA.one (fuel := 5) 4 rfl (by kernel_rfl) rfl ?_
  refine S.buildRowP (n := 65) (vs := [aV _, aV _]) hS9 Try.underlying29 ti26 rfl rfl rfl rfl rfl ?_ rfl ?_
  · intro v hv; simp only [List.mem_cons, List.not_mem_nil, or_false] at hv; first | (rcases hv with rfl | rfl; all_goals (exact (encA_len _).trans (by first | assumption | exact rfl | exact tab_len | exact ofL_len | exact mrg_len | exact mixL_len | exact halfL_len | (rw [List.length_set]; first | assumption | exact ofL_len | exact mixL_len | exact halfL_len)))) | (subst hv; exact (encA_len _).trans (by first | assumption | exact rfl | exact tab_len | exact ofL_len | exact mrg_len | exact mixL_len | exact halfL_len | (rw [List.length_set]; first | assumption | exact ofL_len | exact mixL_len | exact halfL_len)))
  intro b10 w10 hS10; clear hS9
  obtain ⟨R10, hR10, hro10, hSf10⟩ := hS10.keepRow (enc := encA) (n := 65) [xs, ofL [a]] rfl (by intro x hx; rw [encA_len]; simp only [List.mem_cons, List.not_mem_nil, or_false] at hx; first | (rcases hx with rfl | rfl; all_goals (first | assumption | exact rfl | exact tab_len | exact ofL_len | exact mrg_len | exact mixL_len | exact halfL_len)) | (subst hx; first | assumption | exact rfl | exact tab_len | exact ofL_len | exact mrg_len | exact mixL_len | exact halfL_len))
  replace hro8 := hro8.mono hR10
  refine WS.done ⟨fun _ => ((hSf10.weak hR10).weak hR8), ?_⟩
  replace hC := ((hSf10.weak hR10).weak hR8)
  refine WA.one (fuel := 4) 5 rfl (by kernel_rfl) rfl ?_
  refine S.call ent11 rfl (h_merge hSf10 (by exact hro10) (by exact rows_two hf (ofL_fits (by simp))) (by simp)) rfl ?_
  rintro _ w11 ⟨rfl, hS11⟩
  clear hSf10
  refine WS.done ⟨fun _ => ((hS11.weak hR10).weak hR8), ?_⟩
  replace hC := ((hS11.weak hR10).weak hR8)
  refine WA.take (fuel := 3) 6 rfl (by kernel_rfl) (by kernel_rfl) (by kernel_rfl) (by kernel_rfl) rfl rfl hC ?_
  refine Q.extract rfl rfl rfl ?_
  refine WQ.done ?_
  refine WA.take (fuel := 2) 7 rfl (by kernel_rfl) (by kernel_rfl) (by kernel_rfl) (by kernel_rfl) rfl rfl hC ?_
  refine Q.extract rfl rfl rfl ?_
  refine WQ.done ?_
  refine WA.one (fuel := 1) 8 rfl (by kernel_rfl) rfl ?_
  refine S.storeArr (i := 0) hS11 rfl ti26 (by first | assumption | exact rfl | exact tab_len | exact ofL_len | exact mrg_len | exact mixL_len | exact halfL_len | (rw [List.length_set]; first | assumption | exact ofL_len | exact mixL_len | exact halfL_len)) (by first | assumption | exact rfl | exact tab_len | exact ofL_len | exact mrg_len | exact mixL_len | exact halfL_len | (rw [List.length_set]; first | assumption | exact ofL_len | exact mixL_len | exact halfL_len)) rfl rfl rfl ?_
  intro w2002 hS2002; clear hS11
  refine WS.done ⟨fun h => absurd h (by decide), ?_⟩
  refine WA.one (fuel := 0) 9 rfl (by kernel_rfl) rfl ?_
  refine S.assignT rfl ?_
  refine WS.done ⟨fun h => absurd h (by decide), ?_⟩
  refine WA.done (by kernel_rfl) ?_
  clear hC
  refine WR.ret (retC1 rfl rfl (run_loadArr (i := 0) hS2002 rfl Try.underlying26 ti26 (by first | assumption | exact rfl | exact tab_len | exact ofL_len | exact mrg_len | exact mixL_len | exact halfL_len | (rw [List.length_set]; first | assumption | exact ofL_len | exact mixL_len | exact halfL_len))) rfl ?_)
  exact ⟨rfl, hS2002.drop.drop.weak (hR8.trans hR10)⟩

set_option maxRecDepth 100000 in
set_option maxHeartbeats 4000000 in
theorem h_total {w : World} {R : Kn} {L : List HP}  (hS : St w R (L)) {xs : List Int} (hl : xs.length = 65) (hf : ∀ x ∈ xs, fits x) :
    Fn Try.prog 18 #[aV xs] w (fun v w' => v = .agg #[.int .i64 (wh (xs.sum)), .int .u64 (wl (xs.sum))] ∧ St w' R L) := by
  refine Fn.intro (n := 5) Try.func18 rfl rfl rfl ?_
  refine WR.seq ?_
  refine WR.region rfl ?_
  refine S.box (v := aV _) (cs := aI _) hS rfl rfl rfl ?_
  intro b1 w1 hS1; clear hS
  obtain ⟨R1, hR1, hro1, hSf1⟩ := hS1.keepRow (enc := encI .i64) (n := 1) xs (aI_flat _) (fun _ _ => rfl)
  refine S.alloc hSf1 ti40 rfl rfl ?_
  intro b2 w2 hS2; clear hSf1
  refine WS.done ?_
  refine WR.seq ?_
  refine WR.region rfl ?_
  refine S.arrAll Try.underlying26 ti2 rfl rfl ?_
  refine S.call ent41 rfl (w_sum hS2 (by exact roAll hro1 hl) (by exact hf) (by omega)) rfl ?_
  rintro _ w4 ⟨rfl, hS4⟩
  clear hS2
  refine S.storeB (i := 0) hS4 rfl ti40 rfl rfl rfl rfl rfl rfl rfl rfl ?_
  intro w2001 hS2001; clear hS4
  refine WS.done ?_
  refine WR.ret (retC rfl rfl (run_loadBA (i := 0) hS2001 rfl Try.underlying40 rfl ti40 rfl rfl) ?_)
  exact ⟨rfl, hS2001.drop.weak hR1⟩

set_option maxRecDepth 100000 in
set_option maxHeartbeats 4000000 in
theorem h_rank {w : World} {R : Kn} {L : List HP}  (hS : St w R (L)) {xs : List Int} (hl : xs.length = 65) (hf : ∀ x ∈ xs, fits x) {ah al : Int} (ha : fits ah) (hal : 0 ≤ al ∧ al < 18446744073709551616) :
    Fn Try.prog 19 #[aV xs, .agg #[.int .i64 (ah), .int .u64 (al)]] w (fun v w' => ∃ x, v = .tuple #[.int .i64 (if x = -1 then 0 else x), .bool (decide (x ≠ -1))] ∧ rkP xs (ah * 18446744073709551616 + al) x ∧ St w' R L) := by
  have hah := id ha
  unfold fits at hah
  refine Fn.intro (n := 27) Try.func19 rfl rfl rfl ?_
  refine WR.seq ?_
  refine WR.region rfl ?_
  refine S.box (v := aV _) (cs := aI _) hS rfl rfl rfl ?_
  intro b2 w2 hS2; clear hS
  obtain ⟨R2, hR2, hro2, hSf2⟩ := hS2.keepRow (enc := encI .i64) (n := 1) xs (aI_flat _) (fun _ _ => rfl)
  refine S.box hSf2 rfl rfl rfl ?_
  intro b3 w3 hS3; clear hSf2
  refine S.assignC rfl ?_
  refine S.assignC rfl ?_
  refine WS.done ?_
  refine WR.seq ?_
  refine WR.seq ?_
  refine WR.region rfl ?_
  refine S.loadKn hS3 hro2 Try.underlying26 ti26 (by first | assumption | exact rfl | exact tab_len | exact ofL_len | exact mrg_len | exact mixL_len | exact halfL_len | (rw [List.length_set]; first | assumption | exact ofL_len | exact mixL_len | exact halfL_len)) rfl rfl ?_
  refine S.call ent28 rfl (h_right hS3 (by exact hl)) rfl ?_
  rintro _ w8 ⟨rfl, hS8⟩
  clear hS3
  refine S.notD rfl rfl ?_
  refine S.moveT rfl ?_
  refine S.splitD (d := 10) rfl (fun c10 => ?_) (fun c10 => ?_)
  ·
    skip
    refine S.off rfl ?_
    refine S.off rfl ?_
    refine S.off rfl ?_
    refine S.pickTC rfl rfl ?_
    refine WS.done ?_
    refine WR.condT rfl ?_
    refine WR.seq ?_
    refine WR.region rfl ?_
    refine S.assignC rfl ?_
    refine S.assignC rfl ?_
    refine WS.done ?_
    refine WR.ret (ret2 rfl rfl rfl ?_)
    exact ⟨-1, rfl, .inl ⟨.inl (by simpa using c10), rfl⟩, hS8.drop.weak hR2⟩
  ·
    skip
    refine S.fieldB Try.underlying40 rfl ti2 rfl rfl rfl rfl ?_
    refine S.loadB (i := 0) hS8 rfl Try.underlying2 rfl rfl rfl rfl ?_
    refine S.lss rfl rfl rfl ?_
    refine S.pickF rfl rfl ?_
    refine WS.done ?_
    refine WR.condD rfl (fun c14 => ?_) (fun c14 => ?_)
    ·
      skip
      refine WR.seq ?_
      refine WR.region rfl ?_
      refine S.assignC rfl ?_
      refine S.assignC rfl ?_
      refine WS.done ?_
      refine WR.ret (ret2 rfl rfl rfl ?_)
      exact ⟨-1, rfl, .inl ⟨.inr (by omega), rfl⟩, hS8.drop.weak hR2⟩
    ·
      skip
      refine WR.skip ?_
      refine WR.seq ?_
      refine WR.seq ?_
      obtain ⟨hrg, hah0⟩ : rgt xs ∧ 0 ≤ ah := by exact ⟨by simpa using c10, by omega⟩
      refine WR.region rfl ?_
      refine S.moveC rfl ?_
      refine WS.done ?_
      refine WR.block ?_
      refine WR.loopE (fun rq mm rr wr => ∃ (i : Nat), mm = 65 - i ∧ (i ≤ 65 ∧ ∀ b < i, psum xs (b + 1) ≤ (ah * 18446744073709551616 + al)) ∧ rr 15 = .int .i64 (i : Int) ∧ Agr [2, 3] rr rq ∧ St wr R2 (blk b3 (.cells (#[.int .i64 ah, .int .u64 al]) 40 (0, 0)) :: L)) ⟨0, rfl, (by exact ⟨by omega, fun b hb => absurd hb (by omega)⟩), rfl, ⟨rfl, rfl, trivial⟩, hS8⟩ ?_
      rintro mm rr w1001 ⟨i, hm1001, ⟨hi, hall⟩, hr1001_15, hA1001, hS1001⟩
      obtain ⟨rr, rfl⟩ := agrBack hA1001
      clear hA1001
      obtain ⟨rr, rfl⟩ := back1 (r := rr) hr1001_15
      clear hr1001_15
      refine WR.seq ?_
      refine WR.region rfl ?_
      refine S.lss rfl rfl rfl ?_
      refine WS.done ?_
      refine WR.seq ?_
      refine WR.condD rfl (fun c16 => ?_) (fun c16 => ?_)
      ·
        skip
        refine WR.skip ?_
        refine WR.seq ?_
        refine WR.block ?_
        refine WR.seq ?_
        refine WR.region rfl ?_
        refine S.moveT rfl ?_
        refine S.assignT rfl ?_
        refine WS.done ?_
        refine WR.seq ?_
        refine WR.regionW (fun j => false) 7 rfl mixed hS1001 ?_
        intro w6001 hS6001; clear hS1001; have hC := hS6001
        refine WA.take (fuel := 6) 0 rfl (by kernel_rfl) (by kernel_rfl) (by kernel_rfl) (by kernel_rfl) rfl rfl hC ?_
        refine Q.loadBA (i := 0) rfl Try.underlying40 rfl ti40 rfl rfl rfl rfl ?_
        refine WQ.done ?_
        refine WA.take (fuel := 5) 1 rfl (by kernel_rfl) (by kernel_rfl) (by kernel_rfl) (by kernel_rfl) rfl rfl hC ?_
        refine Q.moveT rfl ?_
        refine WQ.done ?_
        refine WA.take (fuel := 4) 2 rfl (by kernel_rfl) (by kernel_rfl) (by kernel_rfl) (by kernel_rfl) rfl rfl hC ?_
        first
          | refine Q.addN rfl rfl rfl (by omega) ?_
          | refine Q.add rfl rfl rfl ?_
        refine WQ.done ?_
        refine WA.take (fuel := 3) 3 rfl (by kernel_rfl) (by kernel_rfl) (by kernel_rfl) (by kernel_rfl) rfl rfl hC ?_
        refine Q.arrHi (i + 1) Try.underlying26 ti2 rfl rfl (by omega) (by omega) rfl ?_
        refine WQ.done ?_
        refine WA.one (fuel := 2) 4 rfl (by kernel_rfl) rfl ?_
        refine S.call ent41 rfl (w_sum hS6001 (by exact hro2.arrTake (i + 1) (by omega) (by omega)) (by exact (fun x hx => hf x (List.mem_of_mem_take hx))) (by rw [List.length_take]; omega)) rfl ?_
        rintro _ w22 ⟨rfl, hS22⟩
        clear hS6001
        have hps := psum_wide hf hl (i + 1)
        refine WS.done ⟨fun _ => hS22, ?_⟩
        replace hC := hS22
        refine WA.one (fuel := 1) 5 rfl (by kernel_rfl) rfl ?_
        refine S.call ent42 rfl (w_cmp hS22 (by exact hal) (by exact (w_range _).2)) rfl ?_
        rintro _ w23 ⟨rfl, hS23⟩
        clear hS22
        have hcm := cmpI_cases (ah * 18446744073709551616 + al) (wh (psum xs (i + 1)) * 18446744073709551616 + wl (psum xs (i + 1)))
        rw [show (xs.take (i + 1)).sum = psum xs (i + 1) from rfl]
        refine WS.done ⟨fun _ => hS23, ?_⟩
        replace hC := hS23
        refine WA.take (fuel := 0) 6 rfl (by kernel_rfl) (by kernel_rfl) (by kernel_rfl) (by kernel_rfl) rfl rfl hC ?_
        refine Q.lss rfl rfl rfl ?_
        refine WQ.done ?_
        refine WA.done (by kernel_rfl) ?_
        clear hC
        refine WR.condD rfl (fun c24 => ?_) (fun c24 => ?_)
        ·
          skip
          refine WR.seq ?_
          refine WR.region rfl ?_
          refine S.moveT rfl ?_
          refine S.assignT rfl ?_
          refine S.assignC rfl ?_
          refine WS.done ?_
          refine WR.ret (ret2 rfl rfl rfl ?_)
          exact ⟨(i : Int), tup2 (congrArg (Value.int .i64) (if_neg (by omega)).symm) (congrArg Value.bool (decide_eq_true (by omega)).symm), .inr (.inr ⟨i, hrg, by omega, by omega, hall, by omega, rfl⟩), hS23.drop.weak hR2⟩
        ·
          skip
          refine WR.skip ?_
          refine WR.region rfl ?_
          first
            | refine S.addN rfl rfl rfl (by omega) ?_
            | refine S.add rfl rfl rfl ?_
          refine S.moveT rfl ?_
          refine WS.done ?_
          exact ⟨_, (by omega), ⟨i + 1, rfl, (by exact ⟨by omega, all_succ hall (by omega)⟩), rfl, ⟨rfl, rfl, trivial⟩, hS23⟩⟩
      ·
        skip
        refine WR.exit ?_
        refine WR.seq ?_
        refine WR.region rfl ?_
        refine S.assignC rfl ?_
        refine S.assignC rfl ?_
        refine WS.done ?_
        refine WR.ret (ret2 rfl rfl rfl ?_)
        obtain rfl : i = 65 := by omega
        exact ⟨-1, rfl, .inr (.inl ⟨hrg, by omega, hall, rfl⟩), hS1001.drop.weak hR2⟩


end Go.Proofs.Ytmmdbincgianaaa.B

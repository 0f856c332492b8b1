import Derived.Test.YtccehcbjihelhaaTypes
import Derived.Test.YtccehcbjihelhaaCrc
namespace Go.Proofs.Ytccehcbjihelhaa.B
open Go.Proofs Go.RowKit Go.Proofs.Ytccehcbjihelhaa.Crc
set_option linter.unusedVariables false
set_option linter.unusedSimpArgs false
set_option maxRecDepth 100000 in
set_option maxHeartbeats 4000000 in
theorem crc_step {w : World} {R : Kn} {L : List HP} (hS : St w R (L)) {x : W} {b : Int} :
    Fn Try.prog 17 #[.int .u32 (wi x), .int .u8 b] w (fun v w' => v = .int .u32 (wi (byteS x b)) ∧ St w' R L) := by
  refine Fn.intro (n := 22) Try.func17 rfl rfl rfl ?_
  refine WR.seq ?_
  refine WR.region rfl ?_
  refine S.assignC rfl ?_
  refine WS.done ?_
  refine WR.seq ?_
  refine WR.region rfl ?_
  refine S.moveT rfl ?_
  refine S.moveT rfl ?_
  first
    | refine S.convN Try.underlying5 Try.underlying31 rfl rfl (wrap_u32 (by omega) (by omega)) ?_
    | refine S.conv Try.underlying5 Try.underlying31 rfl rfl ?_
  refine S.xor rfl rfl rfl ?_
  refine S.assignT rfl ?_
  refine WS.done ?_
  refine WR.seq ?_
  refine WR.seq ?_
  refine WR.region rfl ?_
  refine S.moveC rfl ?_
  refine WS.done ?_
  refine WR.block ?_
  refine WR.loopE (fun rq mm rr wr => ∃ (i : Nat), mm = 8 - i ∧ (i ≤ 8) ∧ rr 0 = .int .u32 (wi (iter i (x ^^^ BitVec.ofInt 32 b))) ∧ rr 10 = .int .i64 (i : Int) ∧ Agr [] rr rq ∧ St wr R L) ⟨0, rfl, (by omega), (by exact congrArg (Value.int .u32) (xor_byte _ _)), rfl, trivial, hS⟩ ?_
  rintro mm rr w1001 ⟨i, hm1001, hf1001, hr1001_0, hr1001_10, hA1001, hS1001⟩
  obtain ⟨rr, rfl⟩ := agrBack hA1001
  clear hA1001
  obtain ⟨rr, rfl⟩ := back2 (r := rr) hr1001_0 hr1001_10
  clear hr1001_0 hr1001_10
  refine WR.seq ?_
  refine WR.region rfl ?_
  refine S.lss rfl rfl rfl ?_
  refine WS.done ?_
  refine WR.seq ?_
  refine WR.condD rfl (fun c11 => ?_) (fun c11 => ?_)
  ·
    skip
    refine WR.skip ?_
    refine WR.seq ?_
    refine WR.block ?_
    refine WR.seq ?_
    refine WR.region rfl ?_
    refine S.moveT rfl ?_
    refine S.and rfl rfl rfl ?_
    refine S.assignT rfl ?_
    refine WS.done ?_
    refine WR.region rfl ?_
    refine S.moveT rfl ?_
    refine S.shrC (q := 2) rfl rfl rfl (by decide) rfl rfl ?_
    refine S.moveT rfl ?_
    refine S.neg rfl rfl ?_
    refine S.and rfl rfl rfl ?_
    refine S.xor rfl rfl rfl ?_
    refine S.assignT rfl ?_
    refine WS.done ?_
    refine WR.region rfl ?_
    first
      | refine S.addN rfl rfl rfl (by omega) ?_
      | refine S.add rfl rfl rfl ?_
    refine S.moveT rfl ?_
    refine WS.done ?_
    exact ⟨_, (by omega), ⟨i + 1, rfl, (by omega), (by exact congrArg (Value.int .u32) (step_code _)), rfl, trivial, hS1001⟩⟩
  ·
    skip
    refine WR.exit ?_
    refine WR.seq ?_
    refine WR.region rfl ?_
    refine S.moveT rfl ?_
    refine S.assignT rfl ?_
    refine WS.done ?_
    refine WR.ret (ret1 rfl rfl ?_)
    refine ⟨?_, hS1001⟩; show Value.int .u32 _ = _; have : i = 8 := by omega
    subst this; rfl

set_option maxRecDepth 100000 in
set_option maxHeartbeats 4000000 in
theorem crc_Sum {w : World} {R : Kn} {L : List HP} (hS : St w R (L)) {v0 : Value} {ps : List (Value × List Int)} {xs : List Int} (hx : ps.flatMap (·.2) = xs) (hp : RoP R .u8 v0 ps) (hm : ps.length ≤ 9223372036854775807) (hm2 : (ps.flatMap (·.2)).length ≤ 70368744177664) :
    Fn Try.prog 12 #[v0] w (fun v w' => v = .int .u32 (wi (crc xs)) ∧ St w' R L) := by
  subst hx
  obtain ⟨a0, c0, rfl, hl0⟩ := hp.len
  refine Fn.intro (n := 27) Try.func12 rfl rfl rfl ?_
  refine WR.seq ?_
  refine WR.region rfl ?_
  refine S.assignC rfl ?_
  refine WS.done ?_
  refine WR.seq ?_
  refine WR.region rfl ?_
  refine S.assignC rfl ?_
  refine WS.done ?_
  refine WR.seq ?_
  refine WR.seq ?_
  refine WR.region rfl ?_
  refine S.moveT rfl ?_
  refine S.lenSl Try.underlying22 rfl rfl ?_
  refine S.moveC rfl ?_
  refine WS.done ?_
  refine WR.block ?_
  refine WR.loopE (fun rq mm rr wr => ∃ (i : Nat), mm = ps.length - i ∧ (i ≤ ps.length) ∧ rr 3 = .int .u32 (wi (sumS (~~~ 0) ((ps.take i).flatMap (·.2)))) ∧ rr 10 = .int .i64 (i : Int) ∧ Agr [8, 9] rr rq ∧ St wr R L) ⟨0, rfl, (by omega), rfl, rfl, ⟨rfl, rfl, trivial⟩, hS⟩ ?_
  rintro mm rr w1001 ⟨i, hm1001, hf1001, hr1001_3, hr1001_10, hA1001, hS1001⟩
  obtain ⟨rr, rfl⟩ := agrBack hA1001
  clear hA1001
  obtain ⟨rr, rfl⟩ := back2 (r := rr) hr1001_3 hr1001_10
  clear hr1001_3 hr1001_10
  refine WR.seq ?_
  refine WR.region rfl ?_
  refine S.lss rfl rfl rfl ?_
  refine WS.done ?_
  refine WR.seq ?_
  refine WR.condD rfl (fun c11 => ?_) (fun c11 => ?_)
  ·
    skip
    refine WR.skip ?_
    refine WR.seq ?_
    refine WR.block ?_
    refine WR.seq ?_
    refine WR.region rfl ?_
    refine S.indexRo hp.row Try.underlying22 ti23 rfl rfl (by omega) rfl ?_
    intro ad12 u12 hu12 hl12 hc12
    refine S.loadRo hS1001 hc12 rfl Try.underlying23 rfl rfl rfl ?_
    refine S.assignT rfl ?_
    refine WS.done ?_
    refine WR.seq ?_
    refine WR.region rfl ?_
    have hq6 := hp.each _ (List.mem_of_getElem? hu12)
    have hm6 := len_each ps _ (List.mem_of_getElem? hu12)
    obtain ⟨a6, c6', he6, hl6'⟩ := hq6.len
    rw [he6] at hq6
    refine S.as (d := 5) rfl he6 ?_
    refine S.moveT rfl ?_
    refine S.lenSl Try.underlying23 rfl rfl ?_
    refine S.moveC rfl ?_
    refine WS.done ?_
    refine WR.block ?_
    refine WR.loopE (fun rq mm rr wr => ∃ (j : Nat), mm = u12.2.length - j ∧ (j ≤ u12.2.length) ∧ rr 3 = .int .u32 (wi (sumS (sumS (~~~ 0) ((ps.take i).flatMap (·.2))) (u12.2.take j))) ∧ rr 16 = .int .i64 (j : Int) ∧ Agr [8, 9, 10, 14, 15] rr rq ∧ St wr R L) ⟨0, rfl, (by omega), rfl, rfl, ⟨rfl, rfl, rfl, rfl, rfl, trivial⟩, hS1001⟩ ?_
    rintro mm rr w1002 ⟨j, hm1002, hf1002, hr1002_3, hr1002_16, hA1002, hS1002⟩
    obtain ⟨rr, rfl⟩ := agrBack hA1002
    clear hA1002
    obtain ⟨rr, rfl⟩ := back2 (r := rr) hr1002_3 hr1002_16
    clear hr1002_3 hr1002_16
    refine WR.seq ?_
    refine WR.region rfl ?_
    refine S.lss rfl rfl rfl ?_
    refine WS.done ?_
    refine WR.seq ?_
    refine WR.condD rfl (fun c17 => ?_) (fun c17 => ?_)
    ·
      skip
      refine WR.skip ?_
      refine WR.seq ?_
      refine WR.block ?_
      refine WR.seq ?_
      refine WR.region rfl ?_
      refine S.indexRo hq6 Try.underlying23 ti5 rfl rfl (by omega) rfl ?_
      intro ad18 u18 hu18 hl18 hc18
      refine S.loadRo hS1002 hc18 rfl Try.underlying5 rfl rfl rfl ?_
      refine S.assignT rfl ?_
      refine WS.done ?_
      refine WR.region rfl ?_
      refine S.moveT rfl ?_
      refine S.moveT rfl ?_
      refine S.call ent17 rfl (crc_step hS1002 ) rfl ?_
      rintro _ w22 ⟨rfl, hS22⟩
      clear hS1002
      refine S.assignT rfl ?_
      refine WS.done ?_
      refine WR.region rfl ?_
      first
        | refine S.addN rfl rfl rfl (by omega) ?_
        | refine S.add rfl rfl rfl ?_
      refine S.moveT rfl ?_
      refine WS.done ?_
      exact ⟨_, (by omega), ⟨j + 1, rfl, (by omega), (by exact congrArg (fun y => Value.int .u32 (wi y)) (sum_byte _ _ _ _ hu18)), rfl, ⟨rfl, rfl, rfl, rfl, rfl, trivial⟩, hS22⟩⟩
    ·
      skip
      refine WR.exit ?_
      refine WR.region rfl ?_
      first
        | refine S.addN rfl rfl rfl (by omega) ?_
        | refine S.add rfl rfl rfl ?_
      refine S.moveT rfl ?_
      refine WS.done ?_
      exact ⟨_, (by omega), ⟨i + 1, rfl, (by omega), (by exact congrArg (fun y => Value.int .u32 (wi y)) (sum_part _ _ _ _ hu12 (by omega))), rfl, ⟨rfl, rfl, trivial⟩, hS1002⟩⟩
  ·
    skip
    refine WR.exit ?_
    refine WR.seq ?_
    refine WR.region rfl ?_
    refine S.moveT rfl ?_
    refine S.compl rfl rfl ?_
    refine S.assignT rfl ?_
    refine WS.done ?_
    refine WR.ret (ret1 rfl rfl ?_)
    refine ⟨Eq.trans (congrArg (Value.int .u32) (compl_code _)) ?_, hS1001⟩
    rw [List.take_of_length_le (by omega)]
    rfl

set_option maxRecDepth 100000 in
set_option maxHeartbeats 4000000 in
theorem crc_Seal {w : World} {R : Kn} {L : List HP} (hS : St w R (L)) {v0 : Value} {ps : List (Value × List Int)} {xs : List Int} (hx : ps.flatMap (·.2) = xs) (hp : RoP R .u8 v0 ps) (hm : ps.length ≤ 9223372036854775807) (hm2 : (ps.flatMap (·.2)).length ≤ 70368744177664) :
    Fn Try.prog 15 #[v0] w (fun v w' => St w' R (Ow 5 (encI .u8) 1 v (seal_ xs) :: L)) := by
  subst hx
  obtain ⟨a0, c0, rfl, hl0⟩ := hp.len
  refine Fn.intro (n := 31) Try.func15 rfl rfl rfl ?_
  refine WR.seq ?_
  refine WR.region rfl ?_
  refine S.assignC rfl ?_
  refine WS.done ?_
  refine WR.seq ?_
  refine WR.region rfl ?_
  have hSn := St.nilRow (enc := encI .u8) (e := 5) (n := 1) hS
  refine S.assignC rfl ?_
  refine WS.done ?_
  refine WR.seq ?_
  refine WR.seq ?_
  refine WR.region rfl ?_
  refine S.moveT rfl ?_
  refine S.lenSl Try.underlying22 rfl rfl ?_
  refine S.moveC rfl ?_
  refine WS.done ?_
  refine WR.block ?_
  refine WR.loopE (fun rq mm rr wr => ∃ (i : Nat) (v3 : Value), mm = ps.length - i ∧ (i ≤ ps.length) ∧ rr 3 = v3 ∧ rr 9 = .int .i64 (i : Int) ∧ Agr [7, 8] rr rq ∧ St wr R (Ow 5 (encI .u8) 1 v3 ((ps.take i).flatMap (·.2)) :: L)) ⟨0, _, rfl, (by omega), rfl, rfl, ⟨rfl, rfl, trivial⟩, hSn⟩ ?_
  rintro mm rr w1001 ⟨i, v3, hm1001, hf1001, hr1001_3, hr1001_9, hA1001, hS1001⟩
  obtain ⟨rr, rfl⟩ := agrBack hA1001
  clear hA1001
  obtain ⟨rr, rfl⟩ := back2 (r := rr) hr1001_3 hr1001_9
  clear hr1001_3 hr1001_9
  refine WR.seq ?_
  refine WR.region rfl ?_
  refine S.lss rfl rfl rfl ?_
  refine WS.done ?_
  refine WR.seq ?_
  refine WR.condD rfl (fun c10 => ?_) (fun c10 => ?_)
  ·
    skip
    refine WR.skip ?_
    refine WR.seq ?_
    refine WR.block ?_
    refine WR.seq ?_
    refine WR.region rfl ?_
    refine S.indexRo hp.row Try.underlying22 ti23 rfl rfl (by omega) rfl ?_
    intro ad11 u11 hu11 hl11 hc11
    refine S.loadRo hS1001 hc11 rfl Try.underlying23 rfl rfl rfl ?_
    refine S.assignT rfl ?_
    refine WS.done ?_
    refine WR.region rfl ?_
    have hq11 := hp.each _ (List.mem_of_getElem? hu11)
    have hz11 := len_part ps i _ hu11
    refine S.moveT rfl ?_
    refine S.moveT rfl ?_
    refine S.appendRo (i := 0) hS1001 rfl hq11 Try.underlying23 ti5 rfl rfl rfl rfl encI_one (by omega) rfl ?_
    intro v15 w15 hS15; clear hS1001
    refine S.assignT rfl ?_
    refine WS.done ?_
    refine WR.region rfl ?_
    first
      | refine S.addN rfl rfl rfl (by omega) ?_
      | refine S.add rfl rfl rfl ?_
    refine S.moveT rfl ?_
    refine WS.done ?_
    exact ⟨_, (by omega), ⟨i + 1, v15, rfl, (by omega), rfl, rfl, ⟨rfl, rfl, trivial⟩, (by rw [part_snoc ps i _ hu11]; exact hS15)⟩⟩
  ·
    skip
    refine WR.exit ?_
    refine WR.seq ?_
    refine WR.region rfl ?_
    obtain rfl : i = ps.length := by omega
    rw [List.take_length] at hS1001
    obtain ⟨a3, c3, rfl⟩ := hS1001.rowLen
    refine S.moveT rfl ?_
    first
      | refine S.buildRow (vs := [.slice _ _ _]) hS1001 Try.underlying22 ti23 rfl rfl rfl rfl rfl rfl rfl ?_
      | refine S.buildRow hS1001 Try.underlying22 ti23 rfl rfl rfl rfl rfl rfl rfl ?_
    intro b18 w18 hS18; clear hS1001
    obtain ⟨R1, hR1, hroL, hSa, back⟩ := (hS18.at_ (i := 1) rfl).lendRow (fun _ _ => rfl)
    obtain ⟨R2, hR2, hPL, hSb⟩ := hSa.keepP [(_, ps.flatMap (·.2))] rfl (by intro p hp; rw [List.mem_singleton] at hp; subst hp; exact hroL)
    refine S.call ent12 rfl (crc_Sum (xs := ps.flatMap (·.2)) hSb (by simp) (hPL) (by simp) (by simpa using hm2)) rfl ?_
    rintro _ w19 ⟨rfl, hS19⟩
    clear hSb
    obtain ⟨R3, hR3, hSc⟩ := back _ _ _ hR2 hS19
    have hSd := hSc.weak hR3
    clear hSc hS19 back
    refine S.assignT rfl ?_
    refine WS.done ?_
    refine WR.seq ?_
    refine WR.seq ?_
    refine WR.region rfl ?_
    refine S.moveC rfl ?_
    refine WS.done ?_
    refine WR.block ?_
    refine WR.loopE (fun rq mm rr wr => ∃ (j : Nat) (v3 : Value), mm = 4 - j ∧ (j ≤ 4) ∧ rr 3 = v3 ∧ rr 6 = .int .u32 (sh (crc (ps.flatMap (·.2))) j) ∧ rr 20 = .int .i64 (j : Int) ∧ Agr [] rr rq ∧ St wr R (Ow 5 (encI .u8) 1 v3 (ps.flatMap (·.2) ++ (le4 (crc (ps.flatMap (·.2)))).take j) :: L)) ⟨0, _, rfl, (by omega), rfl, rfl, rfl, trivial, (by rw [List.take_zero, List.append_nil]; exact hSd)⟩ ?_
    rintro mm rr w1002 ⟨j, v3, hm1002, hf1002, hr1002_3, hr1002_6, hr1002_20, hA1002, hS1002⟩
    obtain ⟨rr, rfl⟩ := agrBack hA1002
    clear hA1002
    obtain ⟨rr, rfl⟩ := back3 (r := rr) hr1002_3 hr1002_6 hr1002_20
    clear hr1002_3 hr1002_6 hr1002_20
    refine WR.seq ?_
    refine WR.region rfl ?_
    refine S.lss rfl rfl rfl ?_
    refine WS.done ?_
    refine WR.seq ?_
    refine WR.condD rfl (fun c21 => ?_) (fun c21 => ?_)
    ·
      skip
      refine WR.skip ?_
      refine WR.seq ?_
      refine WR.block ?_
      refine WR.seq ?_
      refine WR.region rfl ?_
      refine S.moveT rfl ?_
      refine S.moveT rfl ?_
      first
        | refine S.convN Try.underlying31 Try.underlying5 rfl rfl (wrap_u8 (by omega) (by omega)) ?_
        | refine S.conv Try.underlying31 Try.underlying5 rfl rfl ?_
      first
        | refine S.buildRow (vs := [.int _ _]) hS1002 Try.underlying23 ti5 rfl rfl rfl rfl rfl rfl rfl ?_
        | refine S.buildRow hS1002 Try.underlying23 ti5 rfl rfl rfl rfl rfl rfl rfl ?_
      intro b25 w25 hS25; clear hS1002
      refine S.appendTmp (i := 0) [_] hS25 rfl rfl (fun _ _ => rfl) Try.underlying23 ti5 rfl rfl rfl rfl encI_one (by simp only [List.length_append, List.length_take, le4_len, List.length_cons, List.length_nil]; omega) rfl ?_
      intro v26 w26 hS26; clear hS25
      refine S.assignT rfl ?_
      refine WS.done ?_
      refine WR.region rfl ?_
      refine S.moveT rfl ?_
      refine S.shrC (q := 256) rfl rfl rfl (by decide) rfl rfl ?_
      refine S.assignT rfl ?_
      refine WS.done ?_
      refine WR.region rfl ?_
      first
        | refine S.addN rfl rfl rfl (by omega) ?_
        | refine S.add rfl rfl rfl ?_
      refine S.moveT rfl ?_
      refine WS.done ?_
      exact ⟨_, (by omega), ⟨j + 1, v26, rfl, (by omega), rfl, rfl, rfl, trivial, (by rw [le4_snoc _ j (by omega), ← List.append_assoc]; exact hS26)⟩⟩
    ·
      skip
      refine WR.exit ?_
      refine WR.seq ?_
      refine WR.region rfl ?_
      refine S.moveT rfl ?_
      refine S.assignT rfl ?_
      refine WS.done ?_
      refine WR.ret (ret1 rfl rfl ?_)
      obtain rfl : j = 4 := by omega
      exact hS1002

set_option maxRecDepth 100000 in
set_option maxHeartbeats 4000000 in
theorem crc_Open {w : World} {R : Kn} {L : List HP} (hS : St w R (L)) {v0 : Value} {xs : List Int} (h0 : Ro R (encI .u8) 1 v0 xs) (hm : xs.length ≤ 70368744177664) :
    Fn Try.prog 10 #[v0] w (fun v w' => ∃ vb, v = .tuple #[vb, .int .i64 (openE xs)] ∧ St w' R (Ow 5 (encI .u8) 1 vb (openB xs) :: L)) := by
  obtain ⟨a0, c0, rfl, hl0⟩ := h0.len
  refine Fn.intro (n := 38) Try.func10 rfl rfl rfl ?_
  refine WR.seq ?_
  refine WR.region rfl ?_
  refine S.assignC rfl ?_
  refine S.assignC rfl ?_
  refine WS.done ?_
  refine WR.seq ?_
  refine WR.region rfl ?_
  refine S.moveT rfl ?_
  refine S.lenSl Try.underlying23 rfl rfl ?_
  first
    | refine S.subN rfl rfl rfl (by omega) ?_
    | refine S.sub rfl rfl rfl ?_
  refine S.assignT rfl ?_
  refine WS.done ?_
  refine WR.seq ?_
  refine WR.seq ?_
  refine WR.region rfl ?_
  refine S.moveT rfl ?_
  refine S.lss rfl rfl rfl ?_
  refine WS.done ?_
  refine WR.condD rfl (fun c12 => ?_) (fun c12 => ?_)
  ·
    skip
    refine WR.seq ?_
    refine WR.region rfl ?_
    refine S.assignC rfl ?_
    refine S.assignC rfl ?_
    refine WS.done ?_
    refine WR.ret (ret2 rfl rfl rfl ?_)
    have h4 : xs.length < 4 := by omega
    refine ⟨_, congrArg (fun x => Value.tuple #[_, Value.int .i64 x]) (if_pos h4).symm, ?_⟩
    rw [show openB xs = [] from if_pos h4]
    exact hS.nilRow
  ·
    skip
    refine WR.skip ?_
    refine WR.seq ?_
    refine WR.region rfl ?_
    refine S.moveT rfl ?_
    refine S.moveT rfl ?_
    refine S.sliceHi (xs.length - 4) h0 Try.underlying23 ti5 rfl rfl (by omega) (by omega) rfl ?_
    intro a15 cc15 hro15
    first
      | refine S.buildRow (vs := [.slice _ _ _]) hS Try.underlying22 ti23 rfl rfl rfl rfl rfl rfl rfl ?_
      | refine S.buildRow hS Try.underlying22 ti23 rfl rfl rfl rfl rfl rfl rfl ?_
    intro b16 w16 hS16; clear hS
    obtain ⟨R1, hR1, hPL, hSb⟩ := hS16.keepP [(_, _)] rfl (by intro p hp; rw [List.mem_singleton] at hp; subst hp; exact hro15)
    refine S.call ent12 rfl (crc_Sum (xs := xs.take (xs.length - 4)) hSb (by simp) (hPL) (by simp) (by simp; omega)) rfl ?_
    rintro _ w17 ⟨rfl, hS17⟩
    clear hSb
    have hSd := hS17.weak hR1
    clear hS17
    refine S.assignT rfl ?_
    refine WS.done ?_
    refine WR.seq ?_
    refine WR.seq ?_
    refine WR.region rfl ?_
    refine S.moveT rfl ?_
    refine S.moveT rfl ?_
    first
      | refine S.sliceLo (xs.length - 4) h0 Try.underlying23 ti5 rfl rfl (by omega) (by omega) rfl ?_
      | refine S.sliceLo (xs.length - 4) hro15 Try.underlying23 ti5 rfl rfl (by omega) (by omega) rfl ?_
    intro a20 cc20 hro20
    refine S.lenSl Try.underlying23 rfl rfl ?_
    refine S.moveC rfl ?_
    refine WS.done ?_
    refine WR.block ?_
    refine WR.loopE (fun rq mm rr wr => ∃ (j : Nat), mm = 4 - j ∧ (j ≤ 4 ∧ (xs.drop (xs.length - 4)).take j = (le4 (crc (xs.take (xs.length - 4)))).take j) ∧ rr 5 = .int .u32 (sh (crc (xs.take (xs.length - 4))) j) ∧ rr 22 = .int .i64 (j : Int) ∧ Agr [0, 4, 20, 21] rr rq ∧ St wr R L) ⟨0, rfl, (by exact ⟨by omega, by simp⟩), rfl, rfl, ⟨rfl, rfl, rfl, rfl, trivial⟩, hSd⟩ ?_
    rintro mm rr w1001 ⟨j, hm1001, ⟨hj4, hjm⟩, hr1001_5, hr1001_22, hA1001, hS1001⟩
    obtain ⟨rr, rfl⟩ := agrBack hA1001
    clear hA1001
    obtain ⟨rr, rfl⟩ := back2 (r := rr) hr1001_5 hr1001_22
    clear hr1001_5 hr1001_22
    have hdl : (xs.drop (xs.length - 4)).length = 4 := by simp; omega
    refine WR.seq ?_
    refine WR.region rfl ?_
    refine S.lss rfl rfl rfl ?_
    refine WS.done ?_
    refine WR.seq ?_
    refine WR.condD rfl (fun c23 => ?_) (fun c23 => ?_)
    ·
      skip
      refine WR.skip ?_
      refine WR.seq ?_
      refine WR.block ?_
      refine WR.seq ?_
      refine WR.region rfl ?_
      refine S.indexRo hro20 Try.underlying23 ti5 rfl rfl (by omega) rfl ?_
      intro ad24 u24 hu24 hl24 hc24
      refine S.loadRo hS1001 hc24 rfl Try.underlying5 rfl rfl rfl ?_
      refine S.assignT rfl ?_
      refine WS.done ?_
      refine WR.seq ?_
      refine WR.seq ?_
      refine WR.region rfl ?_
      refine S.moveT rfl ?_
      refine S.moveT rfl ?_
      first
        | refine S.convN Try.underlying31 Try.underlying5 rfl rfl (wrap_u8 (by omega) (by omega)) ?_
        | refine S.conv Try.underlying31 Try.underlying5 rfl rfl ?_
      refine S.neq rfl rfl rfl ?_
      refine WS.done ?_
      refine WR.condD rfl (fun c29 => ?_) (fun c29 => ?_)
      ·
        skip
        refine WR.seq ?_
        refine WR.region rfl ?_
        refine S.assignC rfl ?_
        refine S.assignC rfl ?_
        refine WS.done ?_
        refine WR.ret (ret2 rfl rfl rfl ?_)
        refine ⟨_, congrArg (fun x => Value.tuple #[_, Value.int .i64 x]) ?_, ?_⟩
        · have := open_no xs _ j (by omega) (by omega) (by rw [Int.toNat_natCast] at hu24; exact hu24) c29
          unfold openE; rw [if_neg (by omega), if_neg this]
        · have := open_no xs _ j (by omega) (by omega) (by rw [Int.toNat_natCast] at hu24; exact hu24) c29
          rw [show openB xs = [] from by unfold openB; rw [if_neg (by omega), if_neg this]]
          exact hS1001.nilRow
      ·
        skip
        refine WR.skip ?_
        refine WR.region rfl ?_
        refine S.moveT rfl ?_
        refine S.shrC (q := 256) rfl rfl rfl (by decide) rfl rfl ?_
        refine S.assignT rfl ?_
        refine WS.done ?_
        refine WR.region rfl ?_
        first
          | refine S.addN rfl rfl rfl (by omega) ?_
          | refine S.add rfl rfl rfl ?_
        refine S.moveT rfl ?_
        refine WS.done ?_
        exact ⟨_, (by omega), ⟨j + 1, rfl, (by exact ⟨by omega, take_eq_snoc _ _ j _ hjm (by rw [Int.toNat_natCast] at hu24; exact hu24) (by rw [le4_get _ j (by omega)]; congr 1; exact (Decidable.not_not.1 c29).symm)⟩), rfl, rfl, ⟨rfl, rfl, rfl, rfl, trivial⟩, hS1001⟩⟩
    ·
      skip
      refine WR.exit ?_
      refine WR.seq ?_
      refine WR.region rfl ?_
      first
        | refine S.buildRow (vs := []) hS1001 Try.underlying23 ti5 rfl rfl rfl rfl rfl rfl rfl ?_
        | refine S.buildRow hS1001 Try.underlying23 ti5 rfl rfl rfl rfl rfl rfl rfl ?_
      intro b33 w33 hS33; clear hS1001
      have hSo := hS33.ownRow (enc := encI .u8) (n := 1) [] rfl (fun _ h => by cases h) (by simp)
      refine S.moveT rfl ?_
      refine S.moveT rfl ?_
      first
        | refine S.sliceHi (xs.length - 4) h0 Try.underlying23 ti5 rfl rfl (by omega) (by omega) rfl ?_
        | refine S.sliceHi (xs.length - 4) hro15 Try.underlying23 ti5 rfl rfl (by omega) (by omega) rfl ?_
        | refine S.sliceHi (xs.length - 4) hro20 Try.underlying23 ti5 rfl rfl (by omega) (by omega) rfl ?_
      intro a36 cc36 hro36
      refine S.appendRo (i := 0) hSo rfl hro36 Try.underlying23 ti5 rfl rfl rfl rfl encI_one (by simp; omega) rfl ?_
      intro v37 w37 hS37; clear hSo
      refine S.assignT rfl ?_
      refine S.assignC rfl ?_
      refine WS.done ?_
      refine WR.ret (ret2 rfl rfl rfl ?_)
      obtain rfl : j = 4 := by omega
      have hok := open_ok xs (by omega) hjm
      refine ⟨_, congrArg (fun x => Value.tuple #[_, Value.int .i64 x]) ?_, ?_⟩
      · unfold openE; rw [if_neg (by omega), if_pos hok]
      · rw [show openB xs = xs.take (xs.length - 4) from by unfold openB; rw [if_neg (by omega), if_pos hok]]
        exact hS37

set_option maxRecDepth 100000 in
set_option maxHeartbeats 4000000 in
theorem ref_CopyBytes {w : World} {R : Kn} {L : List HP} (hS : St w R (L)) {v0 : Value} {xs : List Int} (h0 : Ro R (encI .u8) 1 v0 xs) (hm : xs.length ≤ 70368744177664) :
    Fn Try.prog 9 #[v0] w (fun v w' => St w' R (Ow 5 (encI .u8) 1 v xs :: L)) := by
  refine Fn.intro (n := 6) Try.func9 rfl rfl rfl ?_
  refine WR.seq ?_
  refine WR.region rfl ?_
  refine S.assignC rfl ?_
  refine WS.done ?_
  refine WR.seq ?_
  refine WR.region rfl ?_
  first
    | refine S.buildRow (vs := []) hS Try.underlying23 ti5 rfl rfl rfl rfl rfl rfl rfl ?_
    | refine S.buildRow hS Try.underlying23 ti5 rfl rfl rfl rfl rfl rfl rfl ?_
  intro b3 w3 hS3; clear hS
  have hSo := hS3.ownRow (enc := encI .u8) (n := 1) [] rfl (fun _ h => by cases h) (by simp)
  refine S.moveT rfl ?_
  refine S.appendRo (i := 0) hSo rfl h0 Try.underlying23 ti5 rfl rfl rfl rfl encI_one (by simp; omega) rfl ?_
  intro v5 w5 hS5; clear hSo
  refine S.assignT rfl ?_
  refine WS.done ?_
  refine WR.ret (ret1 rfl rfl ?_)
  exact hS5

set_option maxRecDepth 100000 in
set_option maxHeartbeats 4000000 in
theorem ref_SameBytes {w : World} {R : Kn} {L : List HP} (hS : St w R (L)) {v0 v1 : Value} {xs ys : List Int} (h0 : Ro R (encI .u8) 1 v0 xs) (h1 : Ro R (encI .u8) 1 v1 ys) (hm : xs.length ≤ 70368744177664) :
    Fn Try.prog 14 #[v0, v1] w (fun v w' => v = .bool (decide (xs = ys)) ∧ St w' R L) := by
  obtain ⟨a0, c0, rfl, hl0⟩ := h0.len
  obtain ⟨a1, c1, rfl, hl1⟩ := h1.len
  refine Fn.intro (n := 26) Try.func14 rfl rfl rfl ?_
  refine WR.seq ?_
  refine WR.region rfl ?_
  refine S.assignC rfl ?_
  refine WS.done ?_
  refine WR.seq ?_
  refine WR.seq ?_
  refine WR.region rfl ?_
  refine S.moveT rfl ?_
  refine S.lenSl Try.underlying23 rfl rfl ?_
  refine S.moveT rfl ?_
  refine S.lenSl Try.underlying23 rfl rfl ?_
  refine S.neq rfl rfl rfl ?_
  refine WS.done ?_
  refine WR.condD rfl (fun c10 => ?_) (fun c10 => ?_)
  ·
    skip
    refine WR.seq ?_
    refine WR.region rfl ?_
    refine S.assignC rfl ?_
    refine WS.done ?_
    refine WR.ret (ret1 rfl rfl ?_)
    refine ⟨congrArg Value.bool (decide_eq_false ?_).symm, hS⟩
    intro e; rw [e] at c10; exact c10 rfl
  ·
    skip
    refine WR.skip ?_
    refine WR.seq ?_
    refine WR.seq ?_
    refine WR.region rfl ?_
    refine S.assignC rfl ?_
    refine WS.done ?_
    refine WR.block ?_
    refine WR.loopE (fun rq mm rr wr => ∃ (i : Nat), mm = xs.length - i ∧ (i ≤ xs.length ∧ xs.take i = ys.take i) ∧ rr 5 = .int .i64 (i : Int) ∧ Agr [0, 1] rr rq ∧ St wr R L) ⟨0, rfl, (by exact ⟨by omega, by simp⟩), rfl, ⟨rfl, rfl, trivial⟩, hS⟩ ?_
    rintro mm rr w1001 ⟨i, hm1001, ⟨hi, hit⟩, hr1001_5, hA1001, hS1001⟩
    obtain ⟨rr, rfl⟩ := agrBack hA1001
    clear hA1001
    obtain ⟨rr, rfl⟩ := back1 (r := rr) hr1001_5
    clear hr1001_5
    have hlen : xs.length = ys.length := by omega
    refine WR.seq ?_
    refine WR.seq ?_
    refine WR.region rfl ?_
    refine S.moveT rfl ?_
    refine S.moveT rfl ?_
    refine S.lenSl Try.underlying23 rfl rfl ?_
    refine S.lss rfl rfl rfl ?_
    refine WS.done ?_
    refine WR.condD rfl (fun c14 => ?_) (fun c14 => ?_)
    ·
      skip
      refine WR.skip ?_
      refine WR.seq ?_
      refine WR.block ?_
      refine WR.seq ?_
      refine WR.regionQ mixed hS1001 (by kernel_rfl) rfl ?_
      refine Q.moveT rfl ?_
      refine Q.moveT rfl ?_
      refine Q.indexRo h0 Try.underlying23 ti5 rfl rfl (by omega) rfl ?_
      intro ad19 u19 hu19 hl19 hc19
      refine Q.loadRo hc19 rfl Try.underlying5 rfl rfl rfl ?_
      refine Q.moveT rfl ?_
      refine Q.moveT rfl ?_
      refine Q.indexRo h1 Try.underlying23 ti5 rfl rfl (by omega) rfl ?_
      intro ad23 u23 hu23 hl23 hc23
      refine Q.loadRo hc23 rfl Try.underlying5 rfl rfl rfl ?_
      refine Q.neq rfl rfl rfl ?_
      refine WQ.done ?_
      intro w5001 hS5001
      clear hS1001
      refine WR.condD rfl (fun c25 => ?_) (fun c25 => ?_)
      ·
        skip
        refine WR.seq ?_
        refine WR.region rfl ?_
        refine S.assignC rfl ?_
        refine WS.done ?_
        refine WR.ret (ret1 rfl rfl ?_)
        refine ⟨congrArg Value.bool (decide_eq_false ?_).symm, hS5001⟩
        intro e; subst e; rw [hu19] at hu23; exact c25 (Option.some.inj hu23)
      ·
        skip
        refine WR.skip ?_
        refine WR.region rfl ?_
        refine S.moveT rfl ?_
        first
          | refine S.addN rfl rfl rfl (by omega) ?_
          | refine S.add rfl rfl rfl ?_
        refine S.assignT rfl ?_
        refine WS.done ?_
        exact ⟨_, (by omega), ⟨i + 1, rfl, (by exact ⟨by omega, take_eq_snoc _ _ i _ hit (by rw [Int.toNat_natCast] at hu19; exact hu19) (by rw [Int.toNat_natCast] at hu23; rw [Decidable.not_not.1 c25]; exact hu23)⟩), rfl, ⟨rfl, rfl, trivial⟩, hS5001⟩⟩
    ·
      skip
      refine WR.exit ?_
      refine WR.seq ?_
      refine WR.region rfl ?_
      refine S.assignC rfl ?_
      refine WS.done ?_
      refine WR.ret (ret1 rfl rfl ?_)
      refine ⟨congrArg Value.bool (decide_eq_true ?_).symm, hS1001⟩
      rw [List.take_of_length_le (by omega), List.take_of_length_le (by omega)] at hit; exact hit

set_option maxRecDepth 100000 in
set_option maxHeartbeats 4000000 in
theorem ref_Sum {w : World} {R : Kn} {L : List HP} (hS : St w R (L)) {v0 : Value} {xs : List Int} (h0 : Ro R (encI .u8) 1 v0 xs) (hm : xs.length ≤ 70368744177664) :
    Fn Try.prog 13 #[v0] w (fun v w' => v = .int .u32 (wi (crc xs)) ∧ St w' R L) := by
  obtain ⟨a0, c0, rfl, hl0⟩ := h0.len
  refine Fn.intro (n := 34) Try.func13 rfl rfl rfl ?_
  refine WR.seq ?_
  refine WR.region rfl ?_
  refine S.assignC rfl ?_
  refine WS.done ?_
  refine WR.seq ?_
  refine WR.region rfl ?_
  refine S.assignC rfl ?_
  refine WS.done ?_
  refine WR.seq ?_
  refine WR.seq ?_
  refine WR.region rfl ?_
  refine S.assignC rfl ?_
  refine WS.done ?_
  refine WR.block ?_
  refine WR.loopE (fun rq mm rr wr => ∃ (i : Nat), mm = xs.length - i ∧ (i ≤ xs.length) ∧ rr 3 = .int .u32 (wi (sumS (~~~ 0) (xs.take i))) ∧ rr 4 = .int .i64 (i : Int) ∧ Agr [0] rr rq ∧ St wr R L) ⟨0, rfl, (by omega), rfl, rfl, ⟨rfl, trivial⟩, hS⟩ ?_
  rintro mm rr w1001 ⟨i, hm1001, hf1001, hr1001_3, hr1001_4, hA1001, hS1001⟩
  obtain ⟨rr, rfl⟩ := agrBack hA1001
  clear hA1001
  obtain ⟨rr, rfl⟩ := back2 (r := rr) hr1001_3 hr1001_4
  clear hr1001_3 hr1001_4
  refine WR.seq ?_
  refine WR.seq ?_
  refine WR.region rfl ?_
  refine S.moveT rfl ?_
  refine S.moveT rfl ?_
  refine S.lenSl Try.underlying23 rfl rfl ?_
  refine S.lss rfl rfl rfl ?_
  refine WS.done ?_
  refine WR.condD rfl (fun c10 => ?_) (fun c10 => ?_)
  ·
    skip
    refine WR.skip ?_
    refine WR.seq ?_
    refine WR.block ?_
    refine WR.seq ?_
    refine WR.region rfl ?_
    refine S.moveT rfl ?_
    refine S.moveT rfl ?_
    refine S.moveT rfl ?_
    refine S.indexRo h0 Try.underlying23 ti5 rfl rfl (by omega) rfl ?_
    intro ad16 u16 hu16 hl16 hc16
    refine S.loadRo hS1001 hc16 rfl Try.underlying5 rfl rfl rfl ?_
    first
      | refine S.convN Try.underlying5 Try.underlying31 rfl rfl (wrap_u32 (by omega) (by omega)) ?_
      | refine S.conv Try.underlying5 Try.underlying31 rfl rfl ?_
    refine S.xor rfl rfl rfl ?_
    refine S.assignT rfl ?_
    refine WS.done ?_
    refine WR.seq ?_
    refine WR.region rfl ?_
    refine S.assignC rfl ?_
    refine WS.done ?_
    refine WR.block ?_
    refine WR.loopE (fun rq mm rr wr => ∃ (k : Nat), mm = 8 - k ∧ (k ≤ 8) ∧ rr 3 = .int .u32 (wi (iter k (sumS (~~~ 0) (xs.take i) ^^^ BitVec.ofInt 32 u16))) ∧ rr 5 = .int .i64 (k : Int) ∧ Agr [0, 4] rr rq ∧ St wr R L) ⟨0, rfl, (by omega), (by exact congrArg (Value.int .u32) (xor_byte _ _)), rfl, ⟨rfl, rfl, trivial⟩, hS1001⟩ ?_
    rintro mm rr w1002 ⟨k, hm1002, hf1002, hr1002_3, hr1002_5, hA1002, hS1002⟩
    obtain ⟨rr, rfl⟩ := agrBack hA1002
    clear hA1002
    obtain ⟨rr, rfl⟩ := back2 (r := rr) hr1002_3 hr1002_5
    clear hr1002_3 hr1002_5
    refine WR.seq ?_
    refine WR.seq ?_
    refine WR.region rfl ?_
    refine S.moveT rfl ?_
    refine S.lss rfl rfl rfl ?_
    refine WS.done ?_
    refine WR.condD rfl (fun c21 => ?_) (fun c21 => ?_)
    ·
      skip
      refine WR.skip ?_
      refine WR.seq ?_
      refine WR.block ?_
      refine WR.seq ?_
      refine WR.region rfl ?_
      refine S.moveT rfl ?_
      have hnn := wi_nn (iter k (sumS (~~~ 0) (xs.take i) ^^^ BitVec.ofInt 32 u16))
      have hlt := wi_lt (iter k (sumS (~~~ 0) (xs.take i) ^^^ BitVec.ofInt 32 u16))
      first
        | refine S.remN rfl rfl (by omega) (by omega) rfl ?_
        | refine S.rem rfl rfl (by omega) rfl ?_
      refine S.assignT rfl ?_
      refine WS.done ?_
      refine WR.seq ?_
      refine WR.region rfl ?_
      refine S.moveT rfl ?_
      refine S.quoK rfl rfl (by omega) (by omega) (wrap_u32 (by omega) (by omega)) rfl ?_
      refine S.assignT rfl ?_
      refine WS.done ?_
      refine WR.seq ?_
      refine WR.region rfl ?_
      refine S.moveT rfl ?_
      refine S.eql rfl rfl rfl ?_
      refine WS.done ?_
      refine WR.condD rfl (fun c29 => ?_) (fun c29 => ?_)
      ·
        skip
        refine WR.region rfl ?_
        refine S.moveT rfl ?_
        refine S.xor rfl rfl rfl ?_
        refine S.assignT rfl ?_
        refine WS.done ?_
        refine WR.region rfl ?_
        refine S.moveT rfl ?_
        first
          | refine S.addN rfl rfl rfl (by omega) ?_
          | refine S.add rfl rfl rfl ?_
        refine S.assignT rfl ?_
        refine WS.done ?_
        exact ⟨_, (by omega), ⟨k + 1, rfl, (by omega), (by first | exact congrArg (Value.int .u32) (step_ref1 _ c29) | exact congrArg (Value.int .u32) (step_ref0 _ c29)), rfl, ⟨rfl, rfl, trivial⟩, hS1002⟩⟩
      ·
        skip
        refine WR.skip ?_
        refine WR.region rfl ?_
        refine S.moveT rfl ?_
        first
          | refine S.addN rfl rfl rfl (by omega) ?_
          | refine S.add rfl rfl rfl ?_
        refine S.assignT rfl ?_
        refine WS.done ?_
        exact ⟨_, (by omega), ⟨k + 1, rfl, (by omega), (by first | exact congrArg (Value.int .u32) (step_ref1 _ c29) | exact congrArg (Value.int .u32) (step_ref0 _ c29)), rfl, ⟨rfl, rfl, trivial⟩, hS1002⟩⟩
    ·
      skip
      refine WR.exit ?_
      refine WR.region rfl ?_
      refine S.moveT rfl ?_
      first
        | refine S.addN rfl rfl rfl (by omega) ?_
        | refine S.add rfl rfl rfl ?_
      refine S.assignT rfl ?_
      refine WS.done ?_
      exact ⟨_, (by omega), ⟨i + 1, rfl, (by omega), (by (have hk8 : k = 8 := by omega); subst hk8; exact congrArg (fun y => Value.int .u32 (wi y)) (sum_byte _ _ _ _ hu16)), rfl, ⟨rfl, trivial⟩, hS1002⟩⟩
  ·
    skip
    refine WR.exit ?_
    refine WR.seq ?_
    refine WR.region rfl ?_
    refine S.moveT rfl ?_
    refine S.compl rfl rfl ?_
    refine S.assignT rfl ?_
    refine WS.done ?_
    refine WR.ret (ret1 rfl rfl ?_)
    refine ⟨Eq.trans (congrArg (Value.int .u32) (compl_code _)) ?_, hS1001⟩
    rw [List.take_of_length_le (by omega)]
    rfl

set_option maxRecDepth 100000 in
set_option maxHeartbeats 4000000 in
theorem ref_Seal {w : World} {R : Kn} {L : List HP} (hS : St w R (L)) {v0 : Value} {xs : List Int} (h0 : Ro R (encI .u8) 1 v0 xs) (hm : xs.length ≤ 70368744177664) :
    Fn Try.prog 16 #[v0] w (fun v w' => St w' R (Ow 5 (encI .u8) 1 v (seal_ xs) :: L)) := by
  refine Fn.intro (n := 22) Try.func16 rfl rfl rfl ?_
  refine WR.seq ?_
  refine WR.region rfl ?_
  refine S.assignC rfl ?_
  refine WS.done ?_
  refine WR.seq ?_
  refine WR.region rfl ?_
  refine S.moveT rfl ?_
  refine S.call ent13 rfl (ref_Sum hS (by assumption) (by assumption)) rfl ?_
  rintro _ w5 ⟨rfl, hS5⟩
  clear hS
  refine S.assignT rfl ?_
  refine WS.done ?_
  refine WR.seq ?_
  refine WR.region rfl ?_
  first
    | refine S.buildRow (vs := []) hS5 Try.underlying23 ti5 rfl rfl rfl rfl rfl rfl rfl ?_
    | refine S.buildRow hS5 Try.underlying23 ti5 rfl rfl rfl rfl rfl rfl rfl ?_
  intro b6 w6 hS6; clear hS5
  have hSo := hS6.ownRow (enc := encI .u8) (n := 1) [] rfl (fun _ h => by cases h) (by simp)
  have hnn := wi_nn (crc xs)
  have hlt := wi_lt (crc xs)
  refine S.moveT rfl ?_
  refine S.appendRo (i := 0) hSo rfl h0 Try.underlying23 ti5 rfl rfl rfl rfl encI_one (by simp; omega) rfl ?_
  intro v8 w8 hS8; clear hSo
  refine S.moveT rfl ?_
  first
    | refine S.convN Try.underlying31 Try.underlying5 rfl rfl (wrap_u8 (by omega) (by omega)) ?_
    | refine S.conv Try.underlying31 Try.underlying5 rfl rfl ?_
  refine S.moveT rfl ?_
  refine S.quoK rfl rfl (by omega) (by omega) (wrap_u32 (by omega) (by omega)) rfl ?_
  first
    | refine S.convN Try.underlying31 Try.underlying5 rfl rfl (wrap_u8 (by omega) (by omega)) ?_
    | refine S.conv Try.underlying31 Try.underlying5 rfl rfl ?_
  refine S.moveT rfl ?_
  refine S.quoK rfl rfl (by omega) (by omega) (wrap_u32 (by omega) (by omega)) rfl ?_
  first
    | refine S.convN Try.underlying31 Try.underlying5 rfl rfl (wrap_u8 (by omega) (by omega)) ?_
    | refine S.conv Try.underlying31 Try.underlying5 rfl rfl ?_
  refine S.moveT rfl ?_
  refine S.quoK rfl rfl (by omega) (by omega) (wrap_u32 (by omega) (by omega)) rfl ?_
  first
    | refine S.convN Try.underlying31 Try.underlying5 rfl rfl (wrap_u8 (by omega) (by omega)) ?_
    | refine S.conv Try.underlying31 Try.underlying5 rfl rfl ?_
  first
    | refine S.buildRow (vs := [.int _ _, .int _ _, .int _ _, .int _ _]) hS8 Try.underlying23 ti5 rfl rfl rfl rfl rfl rfl rfl ?_
    | refine S.buildRow hS8 Try.underlying23 ti5 rfl rfl rfl rfl rfl rfl rfl ?_
  intro b20 w20 hS20; clear hS8
  refine S.appendTmp (i := 0) [_, _, _, _] hS20 rfl rfl (fun _ _ => rfl) Try.underlying23 ti5 rfl rfl rfl rfl encI_one (by simp; omega) rfl ?_
  intro v21 w21 hS21; clear hS20
  refine S.assignT rfl ?_
  refine WS.done ?_
  refine WR.ret (ret1 rfl rfl ?_)
  have e : ∀ n : Int, IntKind.u8.wrap n = n % 256 := fun n => IntKind.wrap_u8 n
  have e4 : wi (crc xs) / 16777216 = wi (crc xs) / 16777216 % 256 := by omega
  rw [e, e, e, e4] at hS21
  exact hS21

set_option maxRecDepth 100000 in
set_option maxHeartbeats 4000000 in
theorem ref_Open {w : World} {R : Kn} {L : List HP} (hS : St w R (L)) {v0 : Value} {xs : List Int} (h0 : Ro R (encI .u8) 1 v0 xs) (hm : xs.length ≤ 70368744177664) :
    Fn Try.prog 11 #[v0] w (fun v w' => ∃ vb R', v = .tuple #[vb, .int .i64 (openE xs)] ∧ R.le R' ∧ Ro R' (encI .u8) 1 vb (openB xs) ∧ St w' R' L) := by
  obtain ⟨a0, c0, rfl, hl0⟩ := h0.len
  refine Fn.intro (n := 35) Try.func11 rfl rfl rfl ?_
  refine WR.seq ?_
  refine WR.region rfl ?_
  refine S.assignC rfl ?_
  refine S.assignC rfl ?_
  refine WS.done ?_
  refine WR.seq ?_
  refine WR.region rfl ?_
  refine S.moveT rfl ?_
  refine S.lenSl Try.underlying23 rfl rfl ?_
  first
    | refine S.subN rfl rfl rfl (by omega) ?_
    | refine S.sub rfl rfl rfl ?_
  refine S.assignT rfl ?_
  refine WS.done ?_
  refine WR.seq ?_
  refine WR.seq ?_
  refine WR.region rfl ?_
  refine S.moveT rfl ?_
  refine S.lss rfl rfl rfl ?_
  refine WS.done ?_
  refine WR.condD rfl (fun c11 => ?_) (fun c11 => ?_)
  ·
    skip
    refine WR.seq ?_
    refine WR.region rfl ?_
    refine S.assignC rfl ?_
    refine S.assignC rfl ?_
    refine WS.done ?_
    refine WR.ret (ret2 rfl rfl rfl ?_)
    have h4 : xs.length < 4 := by omega
    refine ⟨_, R, congrArg (fun x => Value.tuple #[_, Value.int .i64 x]) (if_pos h4).symm, Kn.le.refl _, ?_, hS⟩
    rw [show openB xs = [] from if_pos h4]
    exact Ro.nil
  ·
    skip
    refine WR.skip ?_
    refine WR.seq ?_
    refine WR.region rfl ?_
    refine S.moveT rfl ?_
    refine S.moveT rfl ?_
    refine S.sliceHi (xs.length - 4) h0 Try.underlying23 ti5 rfl rfl (by omega) (by omega) rfl ?_
    intro a14 cc14 hro14
    refine S.call ent16 rfl (ref_Seal hS (by assumption) (by simp; omega)) rfl ?_
    rintro v15 w15 hS15
    clear hS
    obtain ⟨R1, hR1, hroS, hSf⟩ := hS15.freeze (fun _ _ => rfl)
    obtain ⟨a5, c5, rfl, hl5⟩ := hroS.len
    replace h0 := h0.mono hR1
    replace hro14 := hro14.mono hR1
    refine S.assignT rfl ?_
    refine WS.done ?_
    refine WR.seq ?_
    refine WR.seq ?_
    refine WR.region rfl ?_
    refine S.moveT rfl ?_
    refine S.assignT rfl ?_
    refine WS.done ?_
    refine WR.block ?_
    refine WR.loopE (fun rq mm rr wr => ∃ (i : Nat), mm = xs.length - i ∧ (xs.length - 4 ≤ i ∧ i ≤ xs.length ∧ (seal_ (xs.take (xs.length - 4))).take i = xs.take i) ∧ rr 6 = .int .i64 (i : Int) ∧ Agr [0, 4, 5] rr rq ∧ St wr R1 L) ⟨xs.length - 4, rfl, (by exact ⟨by omega, by omega, by unfold seal_; rw [List.take_append, List.take_of_length_le (by simp), show xs.length - 4 - (xs.take (xs.length - 4)).length = 0 by simp, List.take_zero, List.append_nil]⟩), (by exact congrArg (Value.int .i64) (by omega)), ⟨rfl, rfl, rfl, trivial⟩, hSf⟩ ?_
    rintro mm rr w1001 ⟨i, hm1001, ⟨hi1, hi2, hit⟩, hr1001_6, hA1001, hS1001⟩
    obtain ⟨rr, rfl⟩ := agrBack hA1001
    clear hA1001
    obtain ⟨rr, rfl⟩ := back1 (r := rr) hr1001_6
    clear hr1001_6
    have hsl : (seal_ (xs.take (xs.length - 4))).length = xs.length := by rw [seal_len, List.length_take]; omega
    refine WR.seq ?_
    refine WR.seq ?_
    refine WR.region rfl ?_
    refine S.moveT rfl ?_
    refine S.moveT rfl ?_
    first
      | refine S.addN rfl rfl rfl (by omega) ?_
      | refine S.add rfl rfl rfl ?_
    refine S.lss rfl rfl rfl ?_
    refine WS.done ?_
    refine WR.condD rfl (fun c20 => ?_) (fun c20 => ?_)
    ·
      skip
      refine WR.skip ?_
      refine WR.seq ?_
      refine WR.block ?_
      refine WR.seq ?_
      refine WR.regionQ mixed hS1001 (by kernel_rfl) rfl ?_
      refine Q.moveT rfl ?_
      refine Q.moveT rfl ?_
      refine Q.indexRo hroS Try.underlying23 ti5 rfl rfl (by omega) rfl ?_
      intro ad25 u25 hu25 hl25 hc25
      refine Q.loadRo hc25 rfl Try.underlying5 rfl rfl rfl ?_
      refine Q.moveT rfl ?_
      refine Q.moveT rfl ?_
      refine Q.indexRo h0 Try.underlying23 ti5 rfl rfl (by omega) rfl ?_
      intro ad29 u29 hu29 hl29 hc29
      refine Q.loadRo hc29 rfl Try.underlying5 rfl rfl rfl ?_
      refine Q.neq rfl rfl rfl ?_
      refine WQ.done ?_
      intro w5001 hS5001
      clear hS1001
      refine WR.condD rfl (fun c31 => ?_) (fun c31 => ?_)
      ·
        skip
        refine WR.seq ?_
        refine WR.region rfl ?_
        refine S.assignC rfl ?_
        refine S.assignC rfl ?_
        refine WS.done ?_
        refine WR.ret (ret2 rfl rfl rfl ?_)
        have hne : ¬ xs = seal_ (xs.take (xs.length - 4)) := by
          intro e; rw [← e] at hu25; rw [hu29] at hu25; exact c31 (Option.some.inj hu25).symm
        refine ⟨_, R1, congrArg (fun x => Value.tuple #[_, Value.int .i64 x]) ?_, hR1, ?_, hS5001⟩
        · unfold openE; rw [if_neg (by omega), if_neg hne]
        · rw [show openB xs = [] from by unfold openB; rw [if_neg (by omega), if_neg hne]]
          exact Ro.nil
      ·
        skip
        refine WR.skip ?_
        refine WR.region rfl ?_
        refine S.moveT rfl ?_
        first
          | refine S.addN rfl rfl rfl (by omega) ?_
          | refine S.add rfl rfl rfl ?_
        refine S.assignT rfl ?_
        refine WS.done ?_
        exact ⟨_, (by omega), ⟨i + 1, rfl, (by exact ⟨by omega, by omega, take_eq_snoc _ _ i _ hit (by rw [Int.toNat_natCast] at hu25; exact hu25) (by rw [Int.toNat_natCast] at hu29; rw [Decidable.not_not.1 c31]; exact hu29)⟩), rfl, ⟨rfl, rfl, rfl, trivial⟩, hS5001⟩⟩
    ·
      skip
      refine WR.exit ?_
      refine WR.seq ?_
      refine WR.region rfl ?_
      refine S.moveT rfl ?_
      refine S.moveT rfl ?_
      refine S.sliceHi (xs.length - 4) hroS Try.underlying23 ti5 rfl rfl (by omega) (by omega) rfl ?_
      intro a34 cc34 hro34
      refine S.assignT rfl ?_
      refine S.assignC rfl ?_
      refine WS.done ?_
      refine WR.ret (ret2 rfl rfl rfl ?_)
      have hok : xs = seal_ (xs.take (xs.length - 4)) := by
        have e1 : i = xs.length := by omega
        rw [e1, List.take_of_length_le (Nat.le_of_eq hsl), List.take_length] at hit; exact hit.symm
      refine ⟨_, R1, congrArg (fun x => Value.tuple #[_, Value.int .i64 x]) ?_, hR1, ?_, hS1001⟩
      · unfold openE; rw [if_neg (by omega), if_pos hok]
      · rw [show openB xs = (seal_ (xs.take (xs.length - 4))).take (xs.length - 4) from by unfold openB; rw [if_neg (by omega), if_pos hok, ← hok]]
        exact hro34

set_option maxRecDepth 100000 in
set_option maxHeartbeats 4000000 in
theorem law_great {w : World} {R : Kn} {L : List HP} (hS : St w R (L)) {v0 : Value} {ps : List (Value × List Int)} (hp : RoP R .u8 v0 ps) (hm : ps.length ≤ 9223372036854775807) (hm2 : ∀ p ∈ ps, p.2.length ≤ 140737488351232) :
    Fn Try.prog 7 #[v0] w (fun v w' => v = .bool (decide (100 < ps.length ∨ 3000 < (ps.flatMap (·.2)).length)) ∧ St w' R L) := by
  obtain ⟨a0, c0, rfl, hl0⟩ := hp.len
  refine Fn.intro (n := 23) Try.func7 rfl rfl rfl ?_
  refine WR.seq ?_
  refine WR.region rfl ?_
  refine S.assignC rfl ?_
  refine WS.done ?_
  refine WR.seq ?_
  refine WR.seq ?_
  refine WR.region rfl ?_
  refine S.moveT rfl ?_
  refine S.lenSl Try.underlying22 rfl rfl ?_
  refine S.gtr rfl rfl rfl ?_
  refine WS.done ?_
  refine WR.condD rfl (fun c7 => ?_) (fun c7 => ?_)
  ·
    skip
    refine WR.seq ?_
    refine WR.region rfl ?_
    refine S.assignC rfl ?_
    refine WS.done ?_
    refine WR.ret (ret1 rfl rfl ?_)
    exact ⟨congrArg Value.bool (decide_eq_true (.inl (by omega))).symm, hS⟩
  ·
    skip
    refine WR.skip ?_
    refine WR.seq ?_
    refine WR.region rfl ?_
    refine S.assignC rfl ?_
    refine WS.done ?_
    refine WR.seq ?_
    refine WR.seq ?_
    refine WR.region rfl ?_
    refine S.assignC rfl ?_
    refine WS.done ?_
    refine WR.block ?_
    refine WR.loopE (fun rq mm rr wr => ∃ (i : Nat), mm = ps.length - i ∧ (i ≤ ps.length ∧ ((ps.take i).flatMap (·.2)).length ≤ 3000) ∧ rr 3 = .int .i64 (((ps.take i).flatMap (·.2)).length : Int) ∧ rr 4 = .int .i64 (i : Int) ∧ Agr [0] rr rq ∧ St wr R L) ⟨0, rfl, (by exact ⟨by omega, by simp⟩), rfl, rfl, ⟨rfl, trivial⟩, hS⟩ ?_
    rintro mm rr w1001 ⟨i, hm1001, ⟨hi, hi3⟩, hr1001_3, hr1001_4, hA1001, hS1001⟩
    obtain ⟨rr, rfl⟩ := agrBack hA1001
    clear hA1001
    obtain ⟨rr, rfl⟩ := back2 (r := rr) hr1001_3 hr1001_4
    clear hr1001_3 hr1001_4
    refine WR.seq ?_
    refine WR.seq ?_
    refine WR.region rfl ?_
    refine S.moveT rfl ?_
    refine S.moveT rfl ?_
    refine S.lenSl Try.underlying22 rfl rfl ?_
    refine S.lss rfl rfl rfl ?_
    refine WS.done ?_
    refine WR.condD rfl (fun c11 => ?_) (fun c11 => ?_)
    ·
      skip
      refine WR.skip ?_
      refine WR.seq ?_
      refine WR.block ?_
      refine WR.seq ?_
      refine WR.region rfl ?_
      refine S.moveT rfl ?_
      refine S.moveT rfl ?_
      refine S.moveT rfl ?_
      refine S.indexRo hp.row Try.underlying22 ti23 rfl rfl (by omega) rfl ?_
      intro ad17 u17 hu17 hl17 hc17
      refine S.loadRo hS1001 hc17 rfl Try.underlying23 rfl rfl rfl ?_
      have hq17 := hp.each _ (List.mem_of_getElem? hu17)
      have hz17 := hm2 _ (List.mem_of_getElem? hu17)
      obtain ⟨a17, c17, he17, hl17'⟩ := hq17.len
      refine S.as (d := 18) rfl he17 ?_
      refine S.lenSl Try.underlying23 rfl rfl ?_
      first
        | refine S.addN rfl rfl rfl (by omega) ?_
        | refine S.add rfl rfl rfl ?_
      refine S.assignT rfl ?_
      refine WS.done ?_
      refine WR.seq ?_
      refine WR.region rfl ?_
      refine S.moveT rfl ?_
      refine S.gtr rfl rfl rfl ?_
      refine WS.done ?_
      refine WR.condD rfl (fun c22 => ?_) (fun c22 => ?_)
      ·
        skip
        refine WR.seq ?_
        refine WR.region rfl ?_
        refine S.assignC rfl ?_
        refine WS.done ?_
        refine WR.ret (ret1 rfl rfl ?_)
        refine ⟨congrArg Value.bool (decide_eq_true (.inr ?_)).symm, hS1001⟩
        have := len_part ps i _ hu17; omega
      ·
        skip
        refine WR.skip ?_
        refine WR.region rfl ?_
        refine S.moveT rfl ?_
        first
          | refine S.addN rfl rfl rfl (by omega) ?_
          | refine S.add rfl rfl rfl ?_
        refine S.assignT rfl ?_
        refine WS.done ?_
        exact ⟨_, (by omega), ⟨i + 1, rfl, (by exact ⟨by omega, by rw [part_snoc ps i _ hu17, List.length_append]; omega⟩), (by exact congrArg (Value.int .i64) (by rw [part_snoc ps i _ hu17, List.length_append]; omega)), rfl, ⟨rfl, trivial⟩, hS1001⟩⟩
    ·
      skip
      refine WR.exit ?_
      refine WR.seq ?_
      refine WR.region rfl ?_
      refine S.assignC rfl ?_
      refine WS.done ?_
      refine WR.ret (ret1 rfl rfl ?_)
      refine ⟨congrArg Value.bool (decide_eq_false ?_).symm, hS1001⟩
      rw [List.take_of_length_le (by omega)] at hi3; omega

set_option maxRecDepth 100000 in
set_option maxHeartbeats 4000000 in
theorem law_join {w : World} {R : Kn} {L : List HP} (hS : St w R (L)) {v0 : Value} {ps : List (Value × List Int)} (hp : RoP R .u8 v0 ps) (hm : ps.length ≤ 9223372036854775807) (hm2 : (ps.flatMap (·.2)).length ≤ 70368744177664) :
    Fn Try.prog 8 #[v0] w (fun v w' => St w' R (Ow 5 (encI .u8) 1 v (ps.flatMap (·.2)) :: L)) := by
  obtain ⟨a0, c0, rfl, hl0⟩ := hp.len
  refine Fn.intro (n := 19) Try.func8 rfl rfl rfl ?_
  refine WR.seq ?_
  refine WR.region rfl ?_
  refine S.assignC rfl ?_
  refine WS.done ?_
  refine WR.seq ?_
  refine WR.region rfl ?_
  first
    | refine S.buildRow (vs := []) hS Try.underlying23 ti5 rfl rfl rfl rfl rfl rfl rfl ?_
    | refine S.buildRow hS Try.underlying23 ti5 rfl rfl rfl rfl rfl rfl rfl ?_
  intro b5 w5 hS5; clear hS
  have hSo := hS5.ownRow (enc := encI .u8) (n := 1) [] rfl (fun _ h => by cases h) (by simp)
  refine S.assignT rfl ?_
  refine WS.done ?_
  refine WR.seq ?_
  refine WR.seq ?_
  refine WR.region rfl ?_
  refine S.assignC rfl ?_
  refine WS.done ?_
  refine WR.block ?_
  refine WR.loopE (fun rq mm rr wr => ∃ (i : Nat) (v3 : Value), mm = ps.length - i ∧ (i ≤ ps.length) ∧ rr 3 = v3 ∧ rr 4 = .int .i64 (i : Int) ∧ Agr [0] rr rq ∧ St wr R (Ow 5 (encI .u8) 1 v3 ((ps.take i).flatMap (·.2)) :: L)) ⟨0, _, rfl, (by omega), rfl, rfl, ⟨rfl, trivial⟩, hSo⟩ ?_
  rintro mm rr w1001 ⟨i, v3, hm1001, hf1001, hr1001_3, hr1001_4, hA1001, hS1001⟩
  obtain ⟨rr, rfl⟩ := agrBack hA1001
  clear hA1001
  obtain ⟨rr, rfl⟩ := back2 (r := rr) hr1001_3 hr1001_4
  clear hr1001_3 hr1001_4
  refine WR.seq ?_
  refine WR.seq ?_
  refine WR.region rfl ?_
  refine S.moveT rfl ?_
  refine S.moveT rfl ?_
  refine S.lenSl Try.underlying22 rfl rfl ?_
  refine S.lss rfl rfl rfl ?_
  refine WS.done ?_
  refine WR.condD rfl (fun c9 => ?_) (fun c9 => ?_)
  ·
    skip
    refine WR.skip ?_
    refine WR.seq ?_
    refine WR.block ?_
    refine WR.region rfl ?_
    refine S.moveT rfl ?_
    refine S.moveT rfl ?_
    refine S.moveT rfl ?_
    refine S.indexRo hp.row Try.underlying22 ti23 rfl rfl (by omega) rfl ?_
    intro ad15 u15 hu15 hl15 hc15
    refine S.loadRo hS1001 hc15 rfl Try.underlying23 rfl rfl rfl ?_
    have hq15 := hp.each _ (List.mem_of_getElem? hu15)
    have hz15 := len_part ps i _ hu15
    refine S.appendRo (i := 0) hS1001 rfl hq15 Try.underlying23 ti5 rfl rfl rfl rfl encI_one (by omega) rfl ?_
    intro v17 w17 hS17; clear hS1001
    refine S.assignT rfl ?_
    refine WS.done ?_
    refine WR.region rfl ?_
    refine S.moveT rfl ?_
    first
      | refine S.addN rfl rfl rfl (by omega) ?_
      | refine S.add rfl rfl rfl ?_
    refine S.assignT rfl ?_
    refine WS.done ?_
    exact ⟨_, (by omega), ⟨i + 1, v17, rfl, (by omega), rfl, rfl, ⟨rfl, trivial⟩, (by rw [part_snoc ps i _ hu15]; exact hS17)⟩⟩
  ·
    skip
    refine WR.exit ?_
    refine WR.seq ?_
    refine WR.region rfl ?_
    refine S.moveT rfl ?_
    refine S.assignT rfl ?_
    refine WS.done ?_
    refine WR.ret (ret1 rfl rfl ?_)
    obtain rfl : i = ps.length := by omega
    rw [List.take_length] at hS1001
    exact hS1001

set_option maxRecDepth 100000 in
set_option maxHeartbeats 4000000 in
theorem law_alive {w : World} {R : Kn} {L : List HP} (hS : St w R (L))  :
    Fn Try.prog 6 #[] w (fun v w' => v = .bool true ∧ St w' R L) := by
  refine Fn.intro (n := 63) Try.func6 rfl rfl rfl ?_
  refine WR.seq ?_
  refine WR.region rfl ?_
  refine S.assignC rfl ?_
  refine WS.done ?_
  refine WR.seq ?_
  refine WR.region rfl ?_
  first
    | refine S.buildRow (vs := [.int _ _, .int _ _, .int _ _, .int _ _]) hS Try.underlying23 ti5 rfl rfl rfl rfl rfl rfl rfl ?_
    | refine S.buildRow hS Try.underlying23 ti5 rfl rfl rfl rfl rfl rfl rfl ?_
  intro b8 w8 hS8; clear hS
  refine S.convSS (i := 0) hS8 rfl Try.underlying23 Try.underlying5 rfl rfl ?_
  intro w9 hS9; clear hS8
  first
    | refine S.buildRow (vs := [.int _ _, .int _ _, .int _ _, .int _ _, .int _ _]) hS9 Try.underlying23 ti5 rfl rfl rfl rfl rfl rfl rfl ?_
    | refine S.buildRow hS9 Try.underlying23 ti5 rfl rfl rfl rfl rfl rfl rfl ?_
  intro b10 w10 hS10; clear hS9
  refine S.convSS (i := 0) hS10 rfl Try.underlying23 Try.underlying5 rfl rfl ?_
  intro w11 hS11; clear hS10
  first
    | refine S.buildRow (vs := [.slice _ _ _, .slice _ _ _]) hS11 Try.underlying22 ti23 rfl rfl rfl rfl rfl rfl rfl ?_
    | refine S.buildRow hS11 Try.underlying22 ti23 rfl rfl rfl rfl rfl rfl rfl ?_
  intro b12 w12 hS12; clear hS11
  obtain ⟨R1, hR1, hro8, hSa⟩ := (hS12.at_ (i := 2) rfl).keepRow (enc := encI .u8) (n := 1) [49, 50, 51, 52] rfl (fun _ _ => rfl)
  obtain ⟨R2, hR2, hro10, hSb⟩ := (hSa.at_ (i := 1) rfl).keepRow (enc := encI .u8) (n := 1) [53, 54, 55, 56, 57] rfl (fun _ _ => rfl)
  obtain ⟨R3, hR3, hP, hSc⟩ := hSb.keepP [(_, [49, 50, 51, 52]), (_, [53, 54, 55, 56, 57])] rfl (by intro p hp; simp only [List.mem_cons, List.not_mem_nil, or_false] at hp; rcases hp with rfl | rfl <;> first | exact hro8.mono hR2 | exact hro10)
  refine S.call ent15 rfl (crc_Seal (xs := [49, 50, 51, 52, 53, 54, 55, 56, 57]) hSc (by rfl) (hP) (by simp) (by simp)) rfl ?_
  rintro v13 w13 hS13
  clear hSc
  replace hS13 := hS13.weak ((hR1.trans hR2).trans hR3)
  clear hP hro8 hro10 hR1 hR2 hR3 hSa hSb
  obtain ⟨a13, c13, rfl⟩ := hS13.rowLen
  refine S.assignT rfl ?_
  refine WS.done ?_
  refine WR.seq ?_
  refine WR.region rfl ?_
  refine S.moveT rfl ?_
  obtain ⟨R4, hR4, hro4, hSl4, back4⟩ := hS13.lendRow (fun _ _ => rfl)
  refine S.call ent10 rfl (crc_Open hSl4 (hro4) (by decide)) rfl ?_
  rintro _ w16 ⟨vb16, rfl, hS16⟩
  clear hSl4
  obtain ⟨_, hRb4, hSb4⟩ := back4 _ _ _ (Kn.le.refl _) hS16
  replace hSb4 := hSb4.weak hRb4
  clear hS16 back4 hro4 hRb4 hR4
  obtain ⟨a16, c16, rfl⟩ := (hSb4.at_ (i := 1) rfl).rowLen
  refine S.moveT rfl ?_
  refine S.extract rfl rfl rfl ?_
  refine S.extract rfl rfl rfl ?_
  refine S.assignT rfl ?_
  refine S.assignT rfl ?_
  refine WS.done ?_
  refine WR.seq ?_
  refine WR.region rfl ?_
  first
    | refine S.buildRow (vs := [.int _ _, .int _ _, .int _ _]) hSb4 Try.underlying23 ti5 rfl rfl rfl rfl rfl rfl rfl ?_
    | refine S.buildRow hSb4 Try.underlying23 ti5 rfl rfl rfl rfl rfl rfl rfl ?_
  intro b20 w20 hS20; clear hSb4
  obtain ⟨R6, hR6, hro20, hSf⟩ := hS20.keepRow (enc := encI .u8) (n := 1) [1, 2, 3] rfl (fun _ _ => rfl)
  refine S.call ent10 rfl (crc_Open hSf (hro20) (by decide)) rfl ?_
  rintro _ w21 ⟨vb21, rfl, hS21⟩
  clear hSf
  replace hS21 := (hS21.weak hR6).drop
  clear hro20 hR6
  refine S.moveT rfl ?_
  refine S.extract rfl rfl rfl ?_
  refine S.extract rfl rfl rfl ?_
  refine S.assignT rfl ?_
  refine S.assignT rfl ?_
  refine WS.done ?_
  refine WR.seq ?_
  refine WR.seq ?_
  refine WR.region rfl ?_
  refine S.moveT rfl ?_
  refine S.lenSl Try.underlying23 rfl rfl ?_
  refine S.neq rfl rfl rfl ?_
  refine S.isFD (d := 26) rfl (by intro h; exact h rfl) ?_
  refine WS.done ?_
  refine WR.condF rfl ?_
  refine WR.skip ?_
  refine WR.seq ?_
  refine WR.region rfl ?_
  refine S.moveT rfl ?_
  refine S.indexOw (i := 0) hS21 rfl Try.underlying23 ti5 rfl rfl (by exact ⟨by decide, by decide⟩) rfl ?_
  refine S.loadOw (i := 0) hS21 rfl (fun _ _ => rfl) Try.underlying5 rfl rfl (rfl) rfl rfl ?_
  refine S.add rfl rfl rfl ?_
  refine S.indexOw (i := 0) hS21 rfl Try.underlying23 ti5 rfl rfl (by exact ⟨by decide, by decide⟩) rfl ?_
  refine S.storeOw (i := 0) hS21 rfl (fun _ _ => rfl) ti5 rfl (by decide) rfl rfl rfl rfl rfl ?_
  intro w2001 hS2001; clear hS21
  refine WS.done ?_
  refine WR.seq ?_
  refine WR.region rfl ?_
  refine S.moveT rfl ?_
  obtain ⟨R7, hR7, hro7, hSl7, back7⟩ := hS2001.lendRow (fun _ _ => rfl)
  refine S.call ent10 rfl (crc_Open hSl7 (hro7) (by decide)) rfl ?_
  rintro _ w34 ⟨vb34, rfl, hS34⟩
  clear hSl7
  replace hS34 := hS34.drop
  obtain ⟨_, hRb7, hSb7⟩ := back7 _ _ _ (Kn.le.refl _) hS34
  replace hSb7 := hSb7.weak hRb7
  clear hS34 back7 hro7 hRb7 hR7
  refine S.moveT rfl ?_
  refine S.extract rfl rfl rfl ?_
  refine S.extract rfl rfl rfl ?_
  refine S.assignT rfl ?_
  refine S.assignT rfl ?_
  refine WS.done ?_
  refine WR.seq ?_
  refine WR.region rfl ?_
  first
    | refine S.buildRow (vs := [.int _ _, .int _ _, .int _ _, .int _ _, .int _ _, .int _ _, .int _ _, .int _ _, .int _ _]) hSb7 Try.underlying23 ti5 rfl rfl rfl rfl rfl rfl rfl ?_
    | refine S.buildRow hSb7 Try.underlying23 ti5 rfl rfl rfl rfl rfl rfl rfl ?_
  intro b37 w37 hS37; clear hSb7
  refine S.convSS (i := 0) hS37 rfl Try.underlying23 Try.underlying5 rfl rfl ?_
  intro w38 hS38; clear hS37
  first
    | refine S.buildRow (vs := [.slice _ _ _]) hS38 Try.underlying22 ti23 rfl rfl rfl rfl rfl rfl rfl ?_
    | refine S.buildRow hS38 Try.underlying22 ti23 rfl rfl rfl rfl rfl rfl rfl ?_
  intro b39 w39 hS39; clear hS38
  obtain ⟨R8, hR8, hro37, hSg⟩ := (hS39.at_ (i := 1) rfl).keepRow (enc := encI .u8) (n := 1) [49, 50, 51, 52, 53, 54, 55, 56, 57] rfl (fun _ _ => rfl)
  obtain ⟨R9, hR9, hP, hSh⟩ := hSg.keepP [(_, [49, 50, 51, 52, 53, 54, 55, 56, 57])] rfl (by intro p hp; rw [List.mem_singleton] at hp; subst hp; exact hro37)
  refine S.call ent12 rfl (crc_Sum (xs := [49, 50, 51, 52, 53, 54, 55, 56, 57]) hSh (by rfl) (hP) (by simp) (by simp)) rfl ?_
  rintro _ w40 ⟨rfl, hS40⟩
  clear hSh
  replace hS40 := hS40.weak (hR8.trans hR9)
  clear hP hro37 hR8 hR9
  refine S.eql rfl rfl rfl ?_
  refine S.isTD (d := 41) rfl (by decide +kernel) ?_
  refine S.moveT rfl ?_
  refine S.moveT rfl ?_
  refine S.eql rfl rfl rfl ?_
  refine S.isTD (d := 44) rfl (by decide +kernel) ?_
  refine S.pickT rfl rfl ?_
  refine S.moveT rfl ?_
  refine S.moveT rfl ?_
  refine S.lenSl Try.underlying23 rfl rfl ?_
  refine S.eql rfl rfl rfl ?_
  refine S.isTD (d := 49) rfl (by decide +kernel) ?_
  refine S.pickT rfl rfl ?_
  refine S.moveT rfl ?_
  refine S.moveT rfl ?_
  refine S.eql rfl rfl rfl ?_
  refine S.isTD (d := 53) rfl (by decide +kernel) ?_
  refine S.pickT rfl rfl ?_
  refine S.moveT rfl ?_
  refine S.moveT rfl ?_
  refine S.eql rfl rfl rfl ?_
  refine S.isTD (d := 57) rfl (by decide +kernel) ?_
  refine S.pickT rfl rfl ?_
  refine S.moveT rfl ?_
  refine S.call ent12 rfl (crc_Sum (ps := []) (xs := []) hS40 (by rfl) (RoP.nil) (by decide) (by decide)) rfl ?_
  rintro _ w60 ⟨rfl, hS60⟩
  clear hS40
  refine S.eql rfl rfl rfl ?_
  refine S.isTD (d := 61) rfl (by decide +kernel) ?_
  refine S.pickT rfl rfl ?_
  refine S.assignT rfl ?_
  refine WS.done ?_
  refine WR.ret (ret1 rfl rfl ?_)
  exact ⟨rfl, hS60.drop.drop⟩


end Go.Proofs.Ytccehcbjihelhaa.B

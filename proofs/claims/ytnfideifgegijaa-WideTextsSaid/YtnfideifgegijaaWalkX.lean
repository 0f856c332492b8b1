import Derived.Test.YtnfideifgegijaaWalkW
namespace Go.Proofs.Ytnfideifgegijaa.B
open Go.Proofs Go.RowKit
set_option linter.unusedVariables false
set_option linter.unusedSimpArgs false
set_option maxRecDepth 100000 in
set_option maxHeartbeats 4000000 in
theorem sl_reverse {w : World} {R : Kn} {L : List HP} {v0 : Value} {xs : List Int} (hS : St w R (Ow 5 (encI .u8) 1 v0 xs :: L)) (hm : xs.length ≤ 1000000) :
    Fn Try.prog 51 #[v0] w (fun v w' => v = .tuple #[] ∧ St w' R (Ow 5 (encI .u8) 1 v0 xs.reverse :: L)) := by
  obtain ⟨aO, cO, rfl⟩ := hS.rowLen
  refine Fn.intro (n := 28) Try.func51 rfl rfl rfl ?_
  refine WR.seq ?_
  refine WR.region rfl ?_
  refine S.moveT rfl ?_
  refine S.lenSl Try.underlying59 rfl rfl ?_
  first
    | refine S.subN rfl rfl rfl (by omega) ?_
    | refine S.sub rfl rfl rfl ?_
  refine S.assignC rfl ?_
  refine S.assignT rfl ?_
  refine WS.done ?_
  refine WR.block ?_
  refine WR.loopE (fun rq mm rr wr => ∃ (i : Nat) (ys : List Int), mm = xs.length - i ∧ (i ≤ xs.length ∧ Rv xs ys i) ∧ rr 2 = .int .i64 (i : Int) ∧ rr 3 = .int .i64 ((xs.length : Int) - 1 - (i : Int)) ∧ Agr [0] rr rq ∧ St wr R (Ow 5 (encI .u8) 1 (.slice aO xs.length cO) ys :: L)) ⟨0, _, rfl, (by exact ⟨by omega, Rv.start xs⟩), rfl, (by exact congrArg (Value.int .i64) (by omega)), ⟨rfl, trivial⟩, hS⟩ ?_
  rintro mm rr w1001 ⟨i, ys, hm1001, ⟨hi, hR⟩, hr1001_2, hr1001_3, hA1001, hS1001⟩
  obtain ⟨rr, rfl⟩ := agrBack hA1001
  clear hA1001
  obtain ⟨rr, rfl⟩ := back2 (r := rr) hr1001_2 hr1001_3
  clear hr1001_2 hr1001_3
  have hyl := hR.1
  refine WR.seq ?_
  refine WR.seq ?_
  refine WR.region rfl ?_
  refine S.moveT rfl ?_
  refine S.moveT rfl ?_
  refine S.lss rfl rfl rfl ?_
  refine WS.done ?_
  refine WR.condD rfl (fun c9 => ?_) (fun c9 => ?_)
  ·
    skip
    refine WR.skip ?_
    refine WR.seq ?_
    refine WR.block ?_
    obtain ⟨aA, cA, hvA⟩ := hS1001.rowAddr (by intro e; rw [e] at hyl; simp at hyl; omega)
    obtain rfl : aO = some aA := by injection hvA
    obtain ⟨ui, hui0⟩ : ∃ u, ys[i]? = some u := ⟨_, List.getElem?_eq_getElem (by omega)⟩
    obtain ⟨uj, huj0⟩ : ∃ u, ys[xs.length - 1 - i]? = some u := ⟨_, List.getElem?_eq_getElem (by omega)⟩
    have hui : ys[((i : Int)).toNat]? = some ui := by rw [show ((i : Int)).toNat = i by omega]; exact hui0
    have huj : ys[((xs.length : Int) - 1 - (i : Int)).toNat]? = some uj := by rw [show ((xs.length : Int) - 1 - (i : Int)).toNat = xs.length - 1 - i by omega]; exact huj0
    refine WR.regionW (fun j => Nat.beq j 13 || Nat.beq j 14 || Nat.beq j 15) 16 rfl mixed hS1001 ?_
    intro w6001 hS6001; clear hS1001; have hC := hS6001
    refine WA.take (fuel := 15) 0 rfl (by kernel_rfl) (by kernel_rfl) (by kernel_rfl) (by kernel_rfl) rfl rfl hC ?_
    refine Q.moveT rfl ?_
    refine WQ.done ?_
    refine WA.take (fuel := 14) 1 rfl (by kernel_rfl) (by kernel_rfl) (by kernel_rfl) (by kernel_rfl) rfl rfl hC ?_
    refine Q.moveT rfl ?_
    refine WQ.done ?_
    refine WA.take (fuel := 13) 4 rfl (by kernel_rfl) (by kernel_rfl) (by kernel_rfl) (by kernel_rfl) rfl rfl hC ?_
    refine Q.moveT rfl ?_
    refine WQ.done ?_
    refine WA.take (fuel := 12) 5 rfl (by kernel_rfl) (by kernel_rfl) (by kernel_rfl) (by kernel_rfl) rfl rfl hC ?_
    refine Q.moveT rfl ?_
    refine WQ.done ?_
    refine WA.take (fuel := 11) 6 rfl (by kernel_rfl) (by kernel_rfl) (by kernel_rfl) (by kernel_rfl) rfl rfl hC ?_
    refine Q.indexOwP Try.underlying59 ti5 rfl rfl (by first | omega | (simp only [List.length_set]; omega)) rfl ?_
    refine WQ.done ?_
    refine WA.take (fuel := 10) 7 rfl (by kernel_rfl) (by kernel_rfl) (by kernel_rfl) (by kernel_rfl) rfl rfl hC ?_
    refine Q.loadOw (i := 0) rfl (fun _ _ => rfl) Try.underlying5 rfl rfl (huj) rfl rfl ?_
    refine WQ.done ?_
    refine WA.takeP (fuel := 9) 2 rfl (by kernel_rfl) (by kernel_rfl) (by kernel_rfl) rfl rfl ?_
    refine Q.moveT rfl ?_
    refine WQ.done ?_
    refine WA.takeP (fuel := 8) 3 rfl (by kernel_rfl) (by kernel_rfl) (by kernel_rfl) rfl rfl ?_
    refine Q.moveT rfl ?_
    refine WQ.done ?_
    refine WA.takeP (fuel := 7) 8 rfl (by kernel_rfl) (by kernel_rfl) (by kernel_rfl) rfl rfl ?_
    refine Q.moveT rfl ?_
    refine WQ.done ?_
    refine WA.one (fuel := 6) 9 rfl (by kernel_rfl) rfl ?_
    refine S.moveT rfl ?_
    refine WS.done ⟨fun _ => hS6001, ?_⟩
    replace hC := hS6001
    refine WA.one (fuel := 5) 10 rfl (by kernel_rfl) rfl ?_
    refine S.indexOw (i := 0) hS6001 rfl Try.underlying59 ti5 rfl rfl (by first | omega | (simp only [List.length_set]; omega)) rfl ?_
    refine WS.done ⟨fun _ => hS6001, ?_⟩
    replace hC := hS6001
    refine WA.take (fuel := 4) 11 rfl (by kernel_rfl) (by kernel_rfl) (by kernel_rfl) (by kernel_rfl) rfl rfl hC ?_
    refine Q.loadOw (i := 0) rfl (fun _ _ => rfl) Try.underlying5 rfl rfl (hui) rfl rfl ?_
    refine WQ.done ?_
    refine WA.take (fuel := 3) 12 rfl (by kernel_rfl) (by kernel_rfl) (by kernel_rfl) (by kernel_rfl) rfl rfl hC ?_
    refine Q.indexOwP Try.underlying59 ti5 rfl rfl (by first | omega | (simp only [List.length_set]; omega)) rfl ?_
    refine WQ.done ?_
    refine WA.one (fuel := 2) 13 rfl (by kernel_rfl) rfl ?_
    refine S.storeOw (i := 0) hS6001 rfl (fun _ _ => rfl) ti5 rfl (by first | omega | (simp only [List.length_set]; omega)) rfl rfl rfl rfl rfl ?_
    intro w2002 hS2002; clear hS6001
    refine WS.done ⟨fun h => absurd h (by decide), ?_⟩
    refine WA.one (fuel := 1) 14 rfl (by kernel_rfl) rfl ?_
    refine S.indexOw (i := 0) hS2002 rfl Try.underlying59 ti5 rfl rfl (by first | omega | (simp only [List.length_set]; omega)) rfl ?_
    refine WS.done ⟨fun h => absurd h (by decide), ?_⟩
    refine WA.one (fuel := 0) 15 rfl (by kernel_rfl) rfl ?_
    refine S.storeOw (i := 0) hS2002 rfl (fun _ _ => rfl) ti5 rfl (by first | omega | (simp only [List.length_set]; omega)) rfl rfl rfl rfl rfl ?_
    intro w2003 hS2003; clear hS2002
    refine WS.done ⟨fun h => absurd h (by decide), ?_⟩
    refine WA.done (by kernel_rfl) ?_
    clear hC
    refine WR.region rfl ?_
    refine S.moveT rfl ?_
    first
      | refine S.addN rfl rfl rfl (by omega) ?_
      | refine S.add rfl rfl rfl ?_
    refine S.moveT rfl ?_
    first
      | refine S.subN rfl rfl rfl (by omega) ?_
      | refine S.sub rfl rfl rfl ?_
    refine S.assignT rfl ?_
    refine S.assignT rfl ?_
    refine WS.done ?_
    exact ⟨_, (by omega), ⟨i + 1, _, rfl, (by exact ⟨by omega, by rw [show ((xs.length : Int) - 1 - (i : Int)).toNat = xs.length - 1 - i by omega, show ((i : Int)).toNat = i by omega]; exact hR.step (by omega) hui0 huj0⟩), rfl, (by exact congrArg (Value.int .i64) (by omega)), ⟨rfl, trivial⟩, hS2003⟩⟩
  ·
    skip
    refine WR.exit ?_
    refine Exists.intro [] ⟨trivial, ?_⟩
    rw [← hR.fin (by omega)]
    exact ⟨rfl, hS1001⟩

set_option maxRecDepth 100000 in
set_option maxHeartbeats 4000000 in
theorem w_text {w : World} {R : Kn} {L : List HP}  (hS : St w R (L)) {ah al : Int} (ha : fits ah) (hal : (0 ≤ al ∧ al < 18446744073709551616)) :
    Fn Try.prog 26 #[.agg #[.int .i64 (ah), .int .u64 (al)]] w (fun v w' => v = .string (bS (txt (ah * 18446744073709551616 + al))) ∧ St w' R L) := by
  have hah := id ha
  unfold fits at hah
  obtain ⟨Z, hZ⟩ : ∃ Z, (ah * 18446744073709551616 + al) = Z := ⟨_, rfl⟩
  have hnl := dl_len 38 Z.natAbs (by omega)
  refine Fn.intro (n := 49) Try.func26 rfl rfl rfl ?_
  refine WR.seq ?_
  refine WR.region rfl ?_
  refine S.box hS rfl rfl rfl ?_
  intro b1 w1 hS1; clear hS
  refine S.assignC rfl ?_
  refine WS.done ?_
  refine WR.seq ?_
  refine WR.region rfl ?_
  refine S.loadBA (i := 0) hS1 rfl Try.underlying24 rfl ti24 rfl rfl rfl rfl ?_
  refine S.call ent49 rfl (w_magnitude hS1 (by exact ha) (by exact hal)) rfl ?_
  rintro _ w9 ⟨h9, l9, rfl, hh9, hl9, hm9, hS9⟩
  clear hS1
  rw [hZ] at hm9
  refine S.moveT rfl ?_
  refine S.extract rfl rfl rfl ?_
  refine S.extract rfl rfl rfl ?_
  refine S.assignT rfl ?_
  refine S.assignT rfl ?_
  refine WS.done ?_
  refine WR.seq ?_
  refine WR.region rfl ?_
  refine S.assignC rfl ?_
  have hSo := hS9.nilRow (α := Int) (enc := encI .u8) (n := 1) (e := 5)
  refine WS.done ?_
  refine WR.seq ?_
  refine WR.block ?_
  refine WR.loopE (fun rq mm rr wr => ∃ (h l : Int) (v5 : Value) (out : List Int), mm = (h * 18446744073709551616 + l).toNat + (if out.length = 0 then 1 else 0) ∧ ((0 ≤ h ∧ h ≤ 9223372036854775808) ∧ (0 ≤ l ∧ l < 18446744073709551616) ∧ Tv Z.natAbs (h * 18446744073709551616 + l).toNat out) ∧ rr 3 = .int .u64 h ∧ rr 4 = .int .u64 l ∧ rr 5 = v5 ∧ Agr [1] rr rq ∧ St wr R (Ow 5 (encI .u8) 1 v5 out :: blk b1 (.cells (#[.int .i64 ah, .int .u64 al]) 24 (0, 0)) :: L)) ⟨h9, l9, _, [], rfl, (by exact ⟨hh9, hl9, by rw [show (h9 * 18446744073709551616 + l9).toNat = Z.natAbs by omega]; exact Tv.start _⟩), rfl, rfl, rfl, ⟨rfl, trivial⟩, hSo⟩ ?_
  rintro mm rr w1001 ⟨h, l, v5, out, hm1001, ⟨hh, hl, hT⟩, hr1001_3, hr1001_4, hr1001_5, hA1001, hS1001⟩
  obtain ⟨rr, rfl⟩ := agrBack hA1001
  clear hA1001
  obtain ⟨rr, rfl⟩ := back3 (r := rr) hr1001_3 hr1001_4 hr1001_5
  clear hr1001_3 hr1001_4 hr1001_5
  have hTl := hT.len
  refine WR.seq ?_
  refine WR.seq ?_
  refine WR.region rfl ?_
  refine S.moveT rfl ?_
  refine S.neq rfl rfl rfl ?_
  refine S.moveT rfl ?_
  refine S.splitD (d := 14) rfl (fun c14 => ?_) (fun c14 => ?_)
  ·
    skip
    refine S.off rfl ?_
    refine S.off rfl ?_
    refine S.pickTC rfl rfl ?_
    refine S.moveT rfl ?_
    refine S.off rfl ?_
    refine S.off rfl ?_
    refine S.off rfl ?_
    refine S.pickTC rfl rfl ?_
    refine WS.done ?_
    refine WR.condT rfl ?_
    refine WR.skip ?_
    refine WR.block ?_
    refine WR.seq ?_
    refine WR.region rfl ?_
    refine S.assignC rfl ?_
    refine WS.done ?_
    refine WR.seq ?_
    refine WR.region rfl ?_
    refine S.moveT rfl ?_
    refine S.quoU rfl rfl (by omega) (by omega) rfl ?_
    refine S.moveT rfl ?_
    first
      | refine S.remN rfl rfl (by omega) (by omega) rfl ?_
      | refine S.rem rfl rfl (by omega) rfl ?_
    refine S.assignT rfl ?_
    refine S.assignT rfl ?_
    refine WS.done ?_
    refine WR.seq ?_
    refine WR.region rfl ?_
    refine S.moveT rfl ?_
    refine S.moveT rfl ?_
    refine S.call ent50 rfl (s_div64 hS1001 (by omega) (by decide) (by omega)) rfl ?_
    rintro _ w30 ⟨rfl, hS30⟩
    clear hS1001
    have hdv : (h % 10 * 18446744073709551616 + l) / 10 < 18446744073709551616 := by omega
    refine S.moveT rfl ?_
    refine S.extract rfl rfl rfl ?_
    refine S.extract rfl rfl rfl ?_
    refine S.assignT rfl ?_
    refine S.assignT rfl ?_
    refine WS.done ?_
    refine WR.region rfl ?_
    refine S.moveT rfl ?_
    refine S.moveT rfl ?_
    first
      | refine S.addU rfl rfl rfl (by omega) ?_
      | refine S.add rfl rfl rfl ?_
    first
      | refine S.convN Try.underlying22 Try.underlying5 rfl rfl (wrap_u8 (by omega) (by omega)) ?_
      | refine S.conv Try.underlying22 Try.underlying5 rfl rfl ?_
    first
      | refine S.buildRow (vs := [.int _ _]) hS30 Try.underlying59 ti5 rfl rfl rfl rfl rfl rfl rfl ?_
      | refine S.buildRow hS30 Try.underlying59 ti5 rfl rfl rfl rfl rfl rfl rfl ?_
    intro b37 w37 hS37; clear hS30
    refine S.appendTmp (i := 0) [_] hS37 rfl rfl (fun _ _ => rfl) Try.underlying59 ti5 rfl rfl rfl rfl encI_one (by simp; omega) rfl ?_
    intro v38 w38 hS38; clear hS37
    refine S.assignT rfl ?_
    refine WS.done ?_
    exact ⟨_, (by rw [hm1001]; exact text_less (out := out) hh hl (by omega)), ⟨_, _, _, _, rfl, (by exact ⟨by omega, by omega, text_step hh hl hT (by omega)⟩), rfl, rfl, rfl, ⟨rfl, trivial⟩, hS38⟩⟩
  ·
    skip
    refine S.moveT rfl ?_
    refine S.neq rfl rfl rfl ?_
    refine S.pickF rfl rfl ?_
    refine S.moveT rfl ?_
    refine S.splitD (d := 18) rfl (fun c18 => ?_) (fun c18 => ?_)
    ·
      skip
      refine S.off rfl ?_
      refine S.off rfl ?_
      refine S.off rfl ?_
      refine S.pickTC rfl rfl ?_
      refine WS.done ?_
      refine WR.condT rfl ?_
      refine WR.skip ?_
      refine WR.block ?_
      refine WR.seq ?_
      refine WR.region rfl ?_
      refine S.assignC rfl ?_
      refine WS.done ?_
      refine WR.seq ?_
      refine WR.region rfl ?_
      refine S.moveT rfl ?_
      refine S.quoU rfl rfl (by omega) (by omega) rfl ?_
      refine S.moveT rfl ?_
      first
        | refine S.remN rfl rfl (by omega) (by omega) rfl ?_
        | refine S.rem rfl rfl (by omega) rfl ?_
      refine S.assignT rfl ?_
      refine S.assignT rfl ?_
      refine WS.done ?_
      refine WR.seq ?_
      refine WR.region rfl ?_
      refine S.moveT rfl ?_
      refine S.moveT rfl ?_
      refine S.call ent50 rfl (s_div64 hS1001 (by omega) (by decide) (by omega)) rfl ?_
      rintro _ w30 ⟨rfl, hS30⟩
      clear hS1001
      have hdv : (h % 10 * 18446744073709551616 + l) / 10 < 18446744073709551616 := by omega
      refine S.moveT rfl ?_
      refine S.extract rfl rfl rfl ?_
      refine S.extract rfl rfl rfl ?_
      refine S.assignT rfl ?_
      refine S.assignT rfl ?_
      refine WS.done ?_
      refine WR.region rfl ?_
      refine S.moveT rfl ?_
      refine S.moveT rfl ?_
      first
        | refine S.addU rfl rfl rfl (by omega) ?_
        | refine S.add rfl rfl rfl ?_
      first
        | refine S.convN Try.underlying22 Try.underlying5 rfl rfl (wrap_u8 (by omega) (by omega)) ?_
        | refine S.conv Try.underlying22 Try.underlying5 rfl rfl ?_
      first
        | refine S.buildRow (vs := [.int _ _]) hS30 Try.underlying59 ti5 rfl rfl rfl rfl rfl rfl rfl ?_
        | refine S.buildRow hS30 Try.underlying59 ti5 rfl rfl rfl rfl rfl rfl rfl ?_
      intro b37 w37 hS37; clear hS30
      refine S.appendTmp (i := 0) [_] hS37 rfl rfl (fun _ _ => rfl) Try.underlying59 ti5 rfl rfl rfl rfl encI_one (by simp; omega) rfl ?_
      intro v38 w38 hS38; clear hS37
      refine S.assignT rfl ?_
      refine WS.done ?_
      exact ⟨_, (by rw [hm1001]; exact text_less (out := out) hh hl (by omega)), ⟨_, _, _, _, rfl, (by exact ⟨by omega, by omega, text_step hh hl hT (by omega)⟩), rfl, rfl, rfl, ⟨rfl, trivial⟩, hS38⟩⟩
    ·
      skip
      refine S.moveT rfl ?_
      obtain ⟨aO, cO, rfl⟩ := hS1001.rowLen
      refine S.lenSl Try.underlying59 rfl rfl ?_
      refine S.eql rfl rfl rfl ?_
      refine S.pickF rfl rfl ?_
      refine WS.done ?_
      refine WR.condD rfl (fun c22 => ?_) (fun c22 => ?_)
      ·
        skip
        refine WR.skip ?_
        refine WR.block ?_
        refine WR.seq ?_
        refine WR.region rfl ?_
        refine S.assignC rfl ?_
        refine WS.done ?_
        refine WR.seq ?_
        refine WR.region rfl ?_
        refine S.moveT rfl ?_
        refine S.quoU rfl rfl (by omega) (by omega) rfl ?_
        refine S.moveT rfl ?_
        first
          | refine S.remN rfl rfl (by omega) (by omega) rfl ?_
          | refine S.rem rfl rfl (by omega) rfl ?_
        refine S.assignT rfl ?_
        refine S.assignT rfl ?_
        refine WS.done ?_
        refine WR.seq ?_
        refine WR.region rfl ?_
        refine S.moveT rfl ?_
        refine S.moveT rfl ?_
        refine S.call ent50 rfl (s_div64 hS1001 (by omega) (by decide) (by omega)) rfl ?_
        rintro _ w30 ⟨rfl, hS30⟩
        clear hS1001
        have hdv : (h % 10 * 18446744073709551616 + l) / 10 < 18446744073709551616 := by omega
        refine S.moveT rfl ?_
        refine S.extract rfl rfl rfl ?_
        refine S.extract rfl rfl rfl ?_
        refine S.assignT rfl ?_
        refine S.assignT rfl ?_
        refine WS.done ?_
        refine WR.region rfl ?_
        refine S.moveT rfl ?_
        refine S.moveT rfl ?_
        first
          | refine S.addU rfl rfl rfl (by omega) ?_
          | refine S.add rfl rfl rfl ?_
        first
          | refine S.convN Try.underlying22 Try.underlying5 rfl rfl (wrap_u8 (by omega) (by omega)) ?_
          | refine S.conv Try.underlying22 Try.underlying5 rfl rfl ?_
        first
          | refine S.buildRow (vs := [.int _ _]) hS30 Try.underlying59 ti5 rfl rfl rfl rfl rfl rfl rfl ?_
          | refine S.buildRow hS30 Try.underlying59 ti5 rfl rfl rfl rfl rfl rfl rfl ?_
        intro b37 w37 hS37; clear hS30
        refine S.appendTmp (i := 0) [_] hS37 rfl rfl (fun _ _ => rfl) Try.underlying59 ti5 rfl rfl rfl rfl encI_one (by simp; omega) rfl ?_
        intro v38 w38 hS38; clear hS37
        refine S.assignT rfl ?_
        refine WS.done ?_
        exact ⟨_, (by rw [hm1001]; exact text_less (out := out) hh hl (by omega)), ⟨_, _, _, _, rfl, (by exact ⟨by omega, by omega, text_step hh hl hT (by omega)⟩), rfl, rfl, rfl, ⟨rfl, trivial⟩, hS38⟩⟩
      ·
        skip
        refine WR.exit ?_
        refine WR.seq ?_
        refine WR.seq ?_
        refine WR.region rfl ?_
        have hout : out = dl Z.natAbs := hT.fin (by omega) (by omega)
        refine S.fieldB Try.underlying24 rfl ti2 rfl rfl rfl rfl ?_
        refine S.loadB (i := 1) hS1001 rfl Try.underlying2 rfl rfl rfl rfl ?_
        refine S.lss rfl rfl rfl ?_
        refine WS.done ?_
        refine WR.condD rfl (fun c41 => ?_) (fun c41 => ?_)
        ·
          skip
          refine WR.region rfl ?_
          refine S.moveT rfl ?_
          first
            | refine S.buildRow (vs := [.int _ _]) hS1001 Try.underlying59 ti5 rfl rfl rfl rfl rfl rfl rfl ?_
            | refine S.buildRow hS1001 Try.underlying59 ti5 rfl rfl rfl rfl rfl rfl rfl ?_
          intro b43 w43 hS43; clear hS1001
          refine S.appendTmp (i := 0) [_] hS43 rfl rfl (fun _ _ => rfl) Try.underlying59 ti5 rfl rfl rfl rfl encI_one (by simp; omega) rfl ?_
          intro v44 w44 hS44; clear hS43
          refine S.assignT rfl ?_
          refine WS.done ?_
          refine WR.seq ?_
          refine WR.region rfl ?_
          refine S.moveT rfl ?_
          refine S.call ent51 rfl (sl_reverse hS44 (by first | omega | (rw [List.length_append]; simp; omega))) rfl ?_
          rintro _ w46 ⟨rfl, hS46⟩
          clear hS44
          refine WS.done ?_
          refine WR.seq ?_
          refine WR.region rfl ?_
          obtain ⟨R47, hR47, hro47, hSf47⟩ := hS46.freeze (fun _ _ => rfl)
          refine S.moveT rfl ?_
          refine S.toStr hSf47 hro47 Try.underlying59 Try.underlying5 Try.underlying9 rfl rfl ?_
          refine S.assignT rfl ?_
          refine WS.done ?_
          refine WR.ret (ret1 rfl rfl ?_)
          first | (rw [hZ]; exact ⟨congrArg Value.string (congrArg bS (by unfold txt; rw [if_pos (by omega), hout, List.reverse_append]; rfl)), hSf47.drop.weak hR47⟩) | (rw [hZ]; exact ⟨congrArg Value.string (congrArg bS (by unfold txt; rw [if_neg (by omega), hout])), hSf47.drop.weak hR47⟩)
        ·
          skip
          refine WR.skip ?_
          refine WR.seq ?_
          refine WR.region rfl ?_
          refine S.moveT rfl ?_
          refine S.call ent51 rfl (sl_reverse hS1001 (by first | omega | (rw [List.length_append]; simp; omega))) rfl ?_
          rintro _ w46 ⟨rfl, hS46⟩
          clear hS1001
          refine WS.done ?_
          refine WR.seq ?_
          refine WR.region rfl ?_
          obtain ⟨R47, hR47, hro47, hSf47⟩ := hS46.freeze (fun _ _ => rfl)
          refine S.moveT rfl ?_
          refine S.toStr hSf47 hro47 Try.underlying59 Try.underlying5 Try.underlying9 rfl rfl ?_
          refine S.assignT rfl ?_
          refine WS.done ?_
          refine WR.ret (ret1 rfl rfl ?_)
          first | (rw [hZ]; exact ⟨congrArg Value.string (congrArg bS (by unfold txt; rw [if_pos (by omega), hout, List.reverse_append]; rfl)), hSf47.drop.weak hR47⟩) | (rw [hZ]; exact ⟨congrArg Value.string (congrArg bS (by unfold txt; rw [if_neg (by omega), hout])), hSf47.drop.weak hR47⟩)


end Go.Proofs.Ytnfideifgegijaa.B

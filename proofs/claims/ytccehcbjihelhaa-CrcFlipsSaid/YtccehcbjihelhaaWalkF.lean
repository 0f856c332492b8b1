import Derived.Test.YtccehcbjihelhaaWalkA
namespace Go.Proofs.Ytccehcbjihelhaa.B
open Go.Proofs Go.RowKit Go.Proofs.Ytccehcbjihelhaa.Crc
set_option linter.unusedVariables false
set_option linter.unusedSimpArgs false
set_option maxRecDepth 100000 in
set_option maxHeartbeats 4000000 in
theorem law_CrcFlips {w : World} {R : Kn} {L : List HP} (hS : St w R (L)) {v0 : Value} {bs : List Int} {at_ : Int} {f : W} (h0 : Ro R (encI .u8) 1 v0 bs) (hm3 : bs.length ≤ 140737488351232) (hwf : okB bs) :
    Fn Try.prog 5 #[v0, .int .i64 at_, .int .u32 (wi f)] w (fun v w' => v = .bool true ∧ St w' R L) := by
  obtain ⟨a0, c0, rfl, hl0⟩ := h0.len
  refine Fn.intro (n := 98) Try.func5 rfl rfl rfl ?_
  refine WR.seq ?_
  refine WR.region rfl ?_
  refine S.assignC rfl ?_
  refine WS.done ?_
  refine WR.seq ?_
  refine WR.seq ?_
  refine WR.region rfl ?_
  refine S.call ent6 rfl (law_alive hS ) rfl ?_
  rintro _ w15 ⟨rfl, hS15⟩
  clear hS
  refine S.not rfl rfl ?_
  refine WS.done ?_
  refine WR.condF rfl ?_
  refine WR.skip ?_
  refine WR.seq ?_
  refine WR.seq ?_
  refine WR.region rfl ?_
  refine S.moveT rfl ?_
  refine S.lenSl Try.underlying23 rfl rfl ?_
  refine S.gtr rfl rfl rfl ?_
  refine S.moveT rfl ?_
  refine S.splitD (d := 20) rfl (fun c20 => ?_) (fun c20 => ?_)
  ·
    skip
    refine S.off rfl ?_
    refine S.off rfl ?_
    refine S.pickTC rfl rfl ?_
    refine S.moveT rfl ?_
    refine S.off rfl ?_
    refine S.off rfl ?_
    refine S.pickTC rfl rfl ?_
    refine S.moveT rfl ?_
    refine S.off rfl ?_
    refine S.off rfl ?_
    refine S.pickTC rfl rfl ?_
    refine WS.done ?_
    refine WR.condT rfl ?_
    refine WR.seq ?_
    refine WR.region rfl ?_
    refine S.assignC rfl ?_
    refine WS.done ?_
    refine WR.ret (ret1 rfl rfl ?_)
    first | exact ⟨rfl, hS15⟩ | exact ⟨rfl, hS15.drop.drop.weak (hR1.trans hR2)⟩ | exact ⟨rfl, hS15.drop.weak (((((hR1.trans hR2).trans hR3).trans hR4).trans hR5).trans hR6)⟩
  ·
    skip
    refine S.moveT rfl ?_
    refine S.eql rfl rfl rfl ?_
    refine S.pickF rfl rfl ?_
    refine S.moveT rfl ?_
    refine S.splitD (d := 24) rfl (fun c24 => ?_) (fun c24 => ?_)
    ·
      skip
      refine S.off rfl ?_
      refine S.off rfl ?_
      refine S.pickTC rfl rfl ?_
      refine S.moveT rfl ?_
      refine S.off rfl ?_
      refine S.off rfl ?_
      refine S.pickTC rfl rfl ?_
      refine WS.done ?_
      refine WR.condT rfl ?_
      refine WR.seq ?_
      refine WR.region rfl ?_
      refine S.assignC rfl ?_
      refine WS.done ?_
      refine WR.ret (ret1 rfl rfl ?_)
      first | exact ⟨rfl, hS15⟩ | exact ⟨rfl, hS15.drop.drop.weak (hR1.trans hR2)⟩ | exact ⟨rfl, hS15.drop.weak (((((hR1.trans hR2).trans hR3).trans hR4).trans hR5).trans hR6)⟩
    ·
      skip
      refine S.moveT rfl ?_
      refine S.lss rfl rfl rfl ?_
      refine S.pickF rfl rfl ?_
      refine S.moveT rfl ?_
      refine S.splitD (d := 28) rfl (fun c28 => ?_) (fun c28 => ?_)
      ·
        skip
        refine S.off rfl ?_
        refine S.off rfl ?_
        refine S.pickTC rfl rfl ?_
        refine WS.done ?_
        refine WR.condT rfl ?_
        refine WR.seq ?_
        refine WR.region rfl ?_
        refine S.assignC rfl ?_
        refine WS.done ?_
        refine WR.ret (ret1 rfl rfl ?_)
        first | exact ⟨rfl, hS15⟩ | exact ⟨rfl, hS15.drop.drop.weak (hR1.trans hR2)⟩ | exact ⟨rfl, hS15.drop.weak (((((hR1.trans hR2).trans hR3).trans hR4).trans hR5).trans hR6)⟩
      ·
        skip
        refine S.moveT rfl ?_
        refine S.gtr rfl rfl rfl ?_
        refine S.pickF rfl rfl ?_
        refine WS.done ?_
        refine WR.condD rfl (fun c31 => ?_) (fun c31 => ?_)
        ·
          skip
          refine WR.seq ?_
          refine WR.region rfl ?_
          refine S.assignC rfl ?_
          refine WS.done ?_
          refine WR.ret (ret1 rfl rfl ?_)
          first | exact ⟨rfl, hS15⟩ | exact ⟨rfl, hS15.drop.drop.weak (hR1.trans hR2)⟩ | exact ⟨rfl, hS15.drop.weak (((((hR1.trans hR2).trans hR3).trans hR4).trans hR5).trans hR6)⟩
        ·
          skip
          refine WR.skip ?_
          refine WR.seq ?_
          refine WR.region rfl ?_
          refine S.moveT rfl ?_
          first
            | refine S.buildRow (vs := [.slice _ _ _]) hS15 Try.underlying22 ti23 rfl rfl rfl rfl rfl rfl rfl ?_
            | refine S.buildRow hS15 Try.underlying22 ti23 rfl rfl rfl rfl rfl rfl rfl ?_
          intro b33 w33 hS33; clear hS15
          obtain ⟨R1, hR1, hPL, hSb⟩ := hS33.keepP [(_, bs)] rfl (by intro p hp; rw [List.mem_singleton] at hp; subst hp; exact h0)
          refine S.call ent15 rfl (crc_Seal (xs := bs) hSb (by simp) (hPL) (by simp) (by simp; omega)) rfl ?_
          rintro v34 w34 hS34
          clear hSb
          obtain ⟨R2, hR2, hro34, hSc⟩ := hS34.freeze (fun _ _ => rfl)
          replace h0 := h0.mono (hR1.trans hR2)
          clear hPL
          refine S.assignT rfl ?_
          refine WS.done ?_
          refine WR.seq ?_
          refine WR.region rfl ?_
          refine S.moveT rfl ?_
          refine S.call ent9 rfl (ref_CopyBytes hSc (h0) (by omega)) rfl ?_
          rintro v36 w36 hS36
          clear hSc
          refine S.assignT rfl ?_
          refine WS.done ?_
          refine WR.seq ?_
          refine WR.region rfl ?_
          refine S.moveT rfl ?_
          refine S.call ent9 rfl (ref_CopyBytes hS36 (hro34) (by rw [seal_len]; omega)) rfl ?_
          rintro v38 w38 hS38
          clear hS36
          obtain ⟨a38, c38, rfl⟩ := hS38.rowLen
          obtain ⟨a36, c36, rfl⟩ := (hS38.at_ (i := 1) rfl).rowLen
          rw [seal_len] at hS38 ⊢
          refine S.assignT rfl ?_
          refine WS.done ?_
          refine WR.seq ?_
          refine WR.seq ?_
          refine WR.region rfl ?_
          refine S.assignC rfl ?_
          refine WS.done ?_
          refine WR.block ?_
          refine WR.loopE (fun rq mm rr wr => ∃ (i : Nat) (T : List Int), mm = 32 - i ∧ (i ≤ 32 ∧ Fl bs at_ f i T) ∧ rr 10 = .int .i64 (i : Int) ∧ Agr [0, 1, 2, 8, 9, 90, 91, 94, 95, 96] rr rq ∧ St wr R2 (Ow 5 (encI .u8) 1 (.slice a38 (bs.length + 4) c38) (T ++ le4 (crc bs)) :: Ow 5 (encI .u8) 1 (.slice a36 bs.length c36) T :: L)) ⟨0, bs, rfl, (by exact ⟨by omega, Fl.start hwf⟩), rfl, ⟨rfl, rfl, rfl, rfl, rfl, rfl, rfl, rfl, rfl, rfl, trivial⟩, hS38⟩ ?_
          rintro mm rr w1001 ⟨i, T, hm1001, ⟨hi, hF⟩, hr1001_10, hA1001, hS1001⟩
          obtain ⟨rr, rfl⟩ := agrBack hA1001
          clear hA1001
          obtain ⟨rr, rfl⟩ := back1 (r := rr) hr1001_10
          clear hr1001_10
          have hTl := hF.1
          refine WR.seq ?_
          refine WR.seq ?_
          refine WR.region rfl ?_
          refine S.moveT rfl ?_
          refine S.lss rfl rfl rfl ?_
          refine WS.done ?_
          refine WR.condD rfl (fun c40 => ?_) (fun c40 => ?_)
          ·
            skip
            refine WR.skip ?_
            refine WR.seq ?_
            refine WR.block ?_
            refine WR.seq ?_
            refine WR.region rfl ?_
            refine S.moveT rfl ?_
            refine S.moveT rfl ?_
            first
              | refine S.addN rfl rfl rfl (by omega) ?_
              | refine S.add rfl rfl rfl ?_
            first
              | refine S.quoN rfl rfl (by omega) (by omega) rfl ?_
              | refine S.quo rfl rfl (by omega) rfl ?_
            refine S.assignT rfl ?_
            refine WS.done ?_
            refine WR.seq ?_
            refine WR.region rfl ?_
            refine S.moveT rfl ?_
            refine S.moveT rfl ?_
            first
              | refine S.addN rfl rfl rfl (by omega) ?_
              | refine S.add rfl rfl rfl ?_
            first
              | refine S.remN rfl rfl (by omega) (by omega) rfl ?_
              | refine S.rem rfl rfl (by omega) rfl ?_
            first
              | refine S.convN Try.underlying3 Try.underlying38 rfl rfl (wrap_u64 (by omega) (by omega)) ?_
              | refine S.conv Try.underlying3 Try.underlying38 rfl rfl ?_
            refine S.shl rfl rfl (by omega) rfl ?_
            refine S.as (d := 52) rfl (congrArg (Value.int .u8) (bit_code (at_ + i) (by omega))) ?_
            refine S.assignT rfl ?_
            refine WS.done ?_
            refine WR.seq ?_
            refine WR.seq ?_
            refine WR.region rfl ?_
            refine S.moveT rfl ?_
            refine S.moveT rfl ?_
            first
              | refine S.convN Try.underlying3 Try.underlying38 rfl rfl (wrap_u64 (by omega) (by omega)) ?_
              | refine S.conv Try.underlying3 Try.underlying38 rfl rfl ?_
            refine S.shr rfl rfl (by omega) rfl ?_
            first
              | refine S.remN rfl rfl (by omega) (by omega) rfl ?_
              | refine S.rem rfl rfl (by omega) rfl ?_
            refine S.eql rfl rfl rfl ?_
            refine WS.done ?_
            refine WR.condD rfl (fun c58 => ?_) (fun c58 => ?_)
            ·
              skip
              refine WR.exit ?_
              refine WR.region rfl ?_
              refine S.moveT rfl ?_
              first
                | refine S.addN rfl rfl rfl (by omega) ?_
                | refine S.add rfl rfl rfl ?_
              refine S.assignT rfl ?_
              refine WS.done ?_
              exact ⟨_, (by omega), ⟨i + 1, T, rfl, (by exact ⟨by omega, hF.skip (by rw [shr_bit' f i (by omega)] at c58; revert c58; cases f.getLsbD i <;> simp)⟩), rfl, ⟨rfl, rfl, rfl, rfl, rfl, rfl, rfl, rfl, rfl, rfl, trivial⟩, hS1001⟩⟩
            ·
              skip
              refine WR.skip ?_
              refine WR.seq ?_
              refine WR.seq ?_
              refine WR.region rfl ?_
              refine S.moveT rfl ?_
              refine S.moveT rfl ?_
              refine S.lenSl Try.underlying23 rfl rfl ?_
              refine S.geq rfl rfl rfl ?_
              refine WS.done ?_
              refine WR.condD rfl (fun c62 => ?_) (fun c62 => ?_)
              ·
                skip
                refine WR.seq ?_
                refine WR.region rfl ?_
                refine S.assignC rfl ?_
                refine WS.done ?_
                refine WR.ret (ret1 rfl rfl ?_)
                first | exact ⟨rfl, hS1001⟩ | exact ⟨rfl, hS1001.drop.drop.weak (hR1.trans hR2)⟩ | exact ⟨rfl, hS1001.drop.weak (((((hR1.trans hR2).trans hR3).trans hR4).trans hR5).trans hR6)⟩
              ·
                skip
                refine WR.skip ?_
                refine WR.seq ?_
                refine WR.region rfl ?_
                refine S.moveT rfl ?_
                refine S.moveT rfl ?_
                refine S.indexOw (i := 1) hS1001 rfl Try.underlying23 ti5 rfl rfl (by omega) rfl ?_
                have hkl : ((at_ + (i : Int)) / 8).toNat < T.length := by omega
                have hku : ((at_ + (i : Int)) / 8).toNat < (T ++ le4 (crc bs)).length := by rw [List.length_append, le4_len]; omega
                refine S.loadOw (i := 1) hS1001 rfl (fun _ _ => rfl) Try.underlying5 rfl rfl (List.getElem?_eq_getElem hkl) rfl rfl ?_
                refine S.moveT rfl ?_
                refine S.xor rfl rfl rfl ?_
                refine S.indexOw (i := 1) hS1001 rfl Try.underlying23 ti5 rfl rfl (by omega) rfl ?_
                refine S.storeOw (i := 1) hS1001 rfl (fun _ _ => rfl) ti5 rfl (by omega) rfl rfl rfl rfl rfl ?_
                intro w2001 hS2001; clear hS1001
                refine WS.done ?_
                refine WR.region rfl ?_
                refine S.moveT rfl ?_
                refine S.moveT rfl ?_
                refine S.indexOw (i := 0) hS2001 rfl Try.underlying23 ti5 rfl rfl (by rw [List.length_append, le4_len]; omega) rfl ?_
                refine S.loadOw (i := 0) hS2001 rfl (fun _ _ => rfl) Try.underlying5 rfl rfl ((List.getElem?_append_left hkl).trans (List.getElem?_eq_getElem hkl)) rfl rfl ?_
                refine S.moveT rfl ?_
                refine S.xor rfl rfl rfl ?_
                refine S.indexOw (i := 0) hS2001 rfl Try.underlying23 ti5 rfl rfl (by rw [List.length_append, le4_len]; omega) rfl ?_
                refine S.storeOw (i := 0) hS2001 rfl (fun _ _ => rfl) ti5 rfl (by rw [List.length_append, le4_len]; omega) rfl rfl rfl rfl rfl ?_
                intro w2002 hS2002; clear hS2001
                refine WS.done ?_
                refine WR.region rfl ?_
                refine S.moveT rfl ?_
                first
                  | refine S.addN rfl rfl rfl (by omega) ?_
                  | refine S.add rfl rfl rfl ?_
                refine S.assignT rfl ?_
                refine WS.done ?_
                exact ⟨_, (by omega), ⟨i + 1, _, rfl, (by exact ⟨by omega, hF.flip (by rw [shr_bit' f i (by omega)] at c58; revert c58; cases f.getLsbD i <;> simp) (by omega) (by omega) _ (by omega) hkl⟩), rfl, ⟨rfl, rfl, rfl, rfl, rfl, rfl, rfl, rfl, rfl, rfl, trivial⟩, (by rw [set_append_left' T _ _ _ hkl] at hS2002; exact hS2002)⟩⟩
          ·
            skip
            refine WR.exit ?_
            refine WR.seq ?_
            refine WR.region rfl ?_
            refine S.moveT rfl ?_
            obtain rfl : i = 32 := by omega
            have hne := hF.done (fun e => c24 ((wi_zero f).2 e))
            have hop := open_flip T bs hne
            have hTl := hF.1
            obtain ⟨R3, hR3, hro9, hSd⟩ := hS1001.freeze (fun _ _ => rfl)
            obtain ⟨R4, hR4, hro8, hSe⟩ := hSd.freeze (fun _ _ => rfl)
            replace h0 := (h0.mono hR3).mono hR4
            replace hro9 := hro9.mono hR4
            refine S.call ent10 rfl (crc_Open hSe (hro9) (by rw [List.length_append, le4_len]; omega)) rfl ?_
            rintro _ w79 ⟨vb79, rfl, hS79⟩
            clear hSe
            obtain ⟨a79, c79, rfl⟩ := hS79.rowLen
            refine S.moveT rfl ?_
            refine S.extract rfl rfl rfl ?_
            refine S.extract rfl rfl rfl ?_
            refine S.assignT rfl ?_
            refine S.assignT rfl ?_
            refine WS.done ?_
            refine WR.seq ?_
            refine WR.region rfl ?_
            refine S.moveT rfl ?_
            first
              | refine S.buildRow (vs := [.slice _ _ _]) hS79 Try.underlying22 ti23 rfl rfl rfl rfl rfl rfl rfl ?_
              | refine S.buildRow hS79 Try.underlying22 ti23 rfl rfl rfl rfl rfl rfl rfl ?_
            intro b83 w83 hS83; clear hS79
            obtain ⟨R5, hR5, hP8, hSg⟩ := hS83.keepP [(_, T)] rfl (by intro p hp; rw [List.mem_singleton] at hp; subst hp; exact hro8)
            refine S.call ent12 rfl (crc_Sum (xs := T) hSg (by simp) (hP8) (by simp) (by simp; omega)) rfl ?_
            rintro _ w84 ⟨rfl, hS84⟩
            clear hSg
            replace h0 := h0.mono hR5
            refine S.moveT rfl ?_
            first
              | refine S.buildRow (vs := [.slice _ _ _]) hS84 Try.underlying22 ti23 rfl rfl rfl rfl rfl rfl rfl ?_
              | refine S.buildRow hS84 Try.underlying22 ti23 rfl rfl rfl rfl rfl rfl rfl ?_
            intro b86 w86 hS86; clear hS84
            obtain ⟨R6, hR6, hP0, hSh⟩ := hS86.keepP [(_, bs)] rfl (by intro p hp; rw [List.mem_singleton] at hp; subst hp; exact h0)
            refine S.call ent12 rfl (crc_Sum (xs := bs) hSh (by simp) (hP0) (by simp) (by simp; omega)) rfl ?_
            rintro _ w87 ⟨rfl, hS87⟩
            clear hSh
            refine S.neq rfl rfl rfl ?_
            refine S.isTD (d := 88) rfl (by intro e; apply hne; have e2 := congrArg (BitVec.ofInt 32) e; rw [ofInt_wi, ofInt_wi] at e2; exact e2) ?_
            refine S.moveT rfl ?_
            refine S.moveT rfl ?_
            refine S.eql rfl rfl rfl ?_
            refine S.isTD (d := 91) rfl (by exact hop.1) ?_
            refine S.pickT rfl rfl ?_
            refine S.moveT rfl ?_
            refine S.moveT rfl ?_
            refine S.lenSl Try.underlying23 rfl rfl ?_
            refine S.eql rfl rfl rfl ?_
            refine S.isTD (d := 96) rfl (by rw [hop.2]; rfl) ?_
            refine S.pickT rfl rfl ?_
            refine S.assignT rfl ?_
            refine WS.done ?_
            refine WR.ret (ret1 rfl rfl ?_)
            first | exact ⟨rfl, hS87⟩ | exact ⟨rfl, hS87.drop.drop.weak (hR1.trans hR2)⟩ | exact ⟨rfl, hS87.drop.weak (((((hR1.trans hR2).trans hR3).trans hR4).trans hR5).trans hR6)⟩


end Go.Proofs.Ytccehcbjihelhaa.B

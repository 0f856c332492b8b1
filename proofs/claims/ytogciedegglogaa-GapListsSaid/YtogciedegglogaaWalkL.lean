import Derived.Test.YtogciedegglogaaWalkA
namespace Go.Proofs.Ytogciedegglogaa.B
open Go.Proofs Go.RowKit
set_option linter.unusedVariables false
set_option linter.unusedSimpArgs false
set_option maxRecDepth 100000 in
set_option maxHeartbeats 4000000 in
theorem law_GapLists {w : World} {R : Kn} {L : List HP} (hS : St w R (L)) {v0 : Value} {xs : List (Int × Int)} (hf : ∀ x ∈ xs, lim x) (h0 : Ro R gpE 2 v0 xs) (hm : xs.length ≤ 140737488351232) :
    Fn Try.prog 4 #[v0] w (fun v w' => v = .bool true ∧ St w' R L) := by
  obtain ⟨a0, c0, rfl, hl0⟩ := h0.len
  refine Fn.intro (n := 78) Try.func4 rfl rfl rfl ?_
  refine WR.seq ?_
  refine WR.region rfl ?_
  refine S.assignC rfl ?_
  refine WS.done ?_
  refine WR.seq ?_
  refine WR.seq ?_
  refine WR.region rfl ?_
  refine S.call ent7 rfl (l3_alive hS ) rfl ?_
  rintro _ w13 ⟨rfl, hS13⟩
  clear hS
  refine S.not rfl rfl ?_
  refine WS.done ?_
  refine WR.condF rfl ?_
  refine WR.skip ?_
  refine WR.seq ?_
  refine WR.seq ?_
  refine WR.region rfl ?_
  refine S.moveT rfl ?_
  refine S.lenSl Try.underlying43 rfl rfl ?_
  refine S.gtr rfl rfl rfl ?_
  refine WS.done ?_
  refine WR.condD rfl (fun c17 => ?_) (fun c17 => ?_)
  ·
    skip
    refine WR.seq ?_
    refine WR.region rfl ?_
    refine S.assignC rfl ?_
    refine WS.done ?_
    refine WR.ret (ret1 rfl rfl ?_)
    first | exact ⟨rfl, hS13⟩ | exact ⟨rfl, hS13.drop.drop.drop.drop.weak (hR20.trans (hR33.trans hR39))⟩
  ·
    skip
    refine WR.skip ?_
    refine WR.seq ?_
    refine WR.region rfl ?_
    first
      | refine S.buildRow (vs := []) hS13 Try.underlying43 ti23 rfl rfl rfl rfl rfl rfl rfl ?_
      | refine S.buildRow hS13 Try.underlying43 ti23 rfl rfl rfl rfl rfl rfl rfl ?_
    intro b18 w18 hS18; clear hS13
    have hSo := hS18.ownRow (enc := gpE) (n := 2) [] rfl (fun _ h => by cases h) (by simp)
    refine S.moveT rfl ?_
    refine S.appendRo (i := 0) hSo rfl h0 Try.underlying43 ti23 rfl rfl rfl rfl gpE_one (by simp; omega) rfl ?_
    intro v20 w20 hS20; clear hSo
    obtain ⟨R20, hR20, hro20, hSf20⟩ := hS20.freeze (fun _ _ => rfl)
    rw [List.nil_append] at hro20
    obtain ⟨a20, c20', rfl, hl20⟩ := hro20.len
    replace h0 := h0.mono hR20
    refine S.assignT rfl ?_
    refine WS.done ?_
    refine WR.seq ?_
    refine WR.region rfl ?_
    refine S.moveT rfl ?_
    refine S.call ent20 rfl (g_meet hSf20 (by exact hro20) (by omega)) rfl ?_
    rintro _ w23 ⟨p23, q23, e23, rfl, hG23, hS23⟩
    clear hSf20
    refine S.moveT rfl ?_
    refine S.extract rfl rfl rfl ?_
    refine S.extract rfl rfl rfl ?_
    refine S.alloc hS23 ti23 rfl rfl ?_
    intro b4 w4 hS4; clear hS23
    refine S.storeB (i := 0) hS4 rfl ti23 rfl rfl rfl rfl rfl rfl rfl rfl ?_
    intro w2001 hS2001; clear hS4
    refine S.assignT rfl ?_
    refine WS.done ?_
    refine WR.seq ?_
    refine WR.region rfl ?_
    refine S.moveT rfl ?_
    refine S.call ent21 rfl (g_hull hS2001 (by exact hro20) (by omega)) rfl ?_
    rintro _ w28 ⟨p28, q28, e28, rfl, hG28, hS28⟩
    clear hS2001
    refine S.moveT rfl ?_
    refine S.extract rfl rfl rfl ?_
    refine S.extract rfl rfl rfl ?_
    refine S.alloc hS28 ti23 rfl rfl ?_
    intro b6 w6 hS6; clear hS28
    refine S.storeB (i := 0) hS6 rfl ti23 rfl rfl rfl rfl rfl rfl rfl rfl ?_
    intro w2002 hS2002; clear hS6
    refine S.assignT rfl ?_
    refine WS.done ?_
    refine WR.seq ?_
    refine WR.region rfl ?_
    refine S.moveT rfl ?_
    refine S.call ent23 rfl (l3_all hS2002 (by exact h0) (by omega)) rfl ?_
    rintro v33 w33 hS33
    clear hS2002
    obtain ⟨R33, hR33, hro33, hSf33⟩ := hS33.freeze (fun _ _ => rfl)
    replace h0 := h0.mono hR33
    replace hro20 := hro20.mono hR33
    refine S.call ent22 rfl (r3_meet hSf33 (by exact hro33) (by omega)) rfl ?_
    rintro _ w34 ⟨p34, q34, e34, rfl, hG34, hS34⟩
    clear hSf33
    refine S.moveT rfl ?_
    refine S.extract rfl rfl rfl ?_
    refine S.extract rfl rfl rfl ?_
    refine S.alloc hS34 ti31 rfl rfl ?_
    intro b8 w8 hS8; clear hS34
    refine S.storeB (i := 0) hS8 rfl ti31 rfl rfl rfl rfl rfl rfl rfl rfl ?_
    intro w2003 hS2003; clear hS8
    refine S.assignT rfl ?_
    refine WS.done ?_
    refine WR.seq ?_
    refine WR.region rfl ?_
    refine S.moveT rfl ?_
    refine S.call ent23 rfl (l3_all hS2003 (by exact h0) (by omega)) rfl ?_
    rintro v39 w39 hS39
    clear hS2003
    obtain ⟨R39, hR39, hro39, hSf39⟩ := hS39.freeze (fun _ _ => rfl)
    replace h0 := h0.mono hR39
    replace hro20 := hro20.mono hR39
    replace hro33 := hro33.mono hR39
    refine S.call ent24 rfl (r3_hull hSf39 (by exact hf) (by exact hro39) (by omega)) rfl ?_
    rintro _ w40 ⟨p40, q40, e40, rfl, hG40, hS40⟩
    clear hSf39
    refine S.moveT rfl ?_
    refine S.extract rfl rfl rfl ?_
    refine S.extract rfl rfl rfl ?_
    refine S.alloc hS40 ti31 rfl rfl ?_
    intro b10 w10 hS10; clear hS40
    refine S.storeB (i := 0) hS10 rfl ti31 rfl rfl rfl rfl rfl rfl rfl rfl ?_
    intro w2004 hS2004; clear hS10
    refine S.assignT rfl ?_
    refine WS.done ?_
    refine WR.seq ?_
    refine WR.seq ?_
    refine WR.region rfl ?_
    refine S.assignC rfl ?_
    refine WS.done ?_
    refine WR.block ?_
    refine WR.loopE (fun rq mm rr wr => ∃ (i : Nat), mm = xs.length - i ∧ (i ≤ xs.length) ∧ rr 12 = .int .i64 (i : Int) ∧ Agr [0, 3, 4, 5, 6, 7, 8, 9, 10, 11] rr rq ∧ St wr R39 (blk b10 (.cells (#[.int .i64 p40, .int .i64 q40]) 31 (0, 0)) :: blk b8 (.cells (#[.int .i64 p34, .int .i64 q34]) 31 (0, 0)) :: blk b6 (.cells (#[.int .i64 p28, .int .i64 q28]) 23 (0, 0)) :: blk b4 (.cells (#[.int .i64 p23, .int .i64 q23]) 23 (0, 0)) :: L)) ⟨0, rfl, (by omega), rfl, ⟨rfl, rfl, rfl, rfl, rfl, rfl, rfl, rfl, rfl, rfl, trivial⟩, hS2004⟩ ?_
    rintro mm rr w1001 ⟨i, hm1001, hi, hr1001_12, hA1001, hS1001⟩
    obtain ⟨rr, rfl⟩ := agrBack hA1001
    clear hA1001
    obtain ⟨rr, rfl⟩ := back1 (r := rr) hr1001_12
    clear hr1001_12
    refine WR.seq ?_
    refine WR.seq ?_
    refine WR.region rfl ?_
    refine S.moveT rfl ?_
    refine S.moveT rfl ?_
    refine S.lenSl Try.underlying43 rfl rfl ?_
    refine S.lss rfl rfl rfl ?_
    refine WS.done ?_
    refine WR.condD rfl (fun c46 => ?_) (fun c46 => ?_)
    ·
      skip
      refine WR.skip ?_
      refine WR.seq ?_
      refine WR.block ?_
      refine WR.seq ?_
      refine WR.regionQ mixed hS1001 (by kernel_rfl) rfl ?_
      refine Q.moveT rfl ?_
      refine Q.moveT rfl ?_
      refine Q.indexRo hro20 Try.underlying43 ti23 rfl rfl (by omega) rfl ?_
      intro ad51 u51 hu51 hl51 hc51
      refine Q.loadRoA hc51 hl51 Try.underlying23 rfl ti23 rfl rfl ?_
      refine Q.moveT rfl ?_
      refine Q.moveT rfl ?_
      refine Q.indexRo h0 Try.underlying43 ti23 rfl rfl (by omega) rfl ?_
      intro ad55 u55 hu55 hl55 hc55
      refine Q.loadRoA hc55 hl55 Try.underlying23 rfl ti23 rfl rfl ?_
      refine Q.neqS rfl rfl (by kernel_rfl) (Eq1.struct Try.underlying23 (by kernel_rfl) (EqF.cons (by decide) (Part1.one Try.underlying2 rfl rfl) (Part1.one Try.underlying2 rfl rfl) (Eq1.int Try.underlying2) (EqF.one (by decide) (Part1.one Try.underlying2 rfl rfl) (Part1.one Try.underlying2 rfl rfl) (Eq1.int Try.underlying2)))) rfl ?_
      refine Q.isFD (d := 57) rfl (by rw [Option.some.inj (hu51.symm.trans hu55)]; exact fun h => h ⟨rfl, rfl⟩) ?_
      refine WQ.done ?_
      intro w5005 hS5005
      clear hS1001
      refine WR.condF rfl ?_
      refine WR.skip ?_
      refine WR.region rfl ?_
      refine S.moveT rfl ?_
      first
        | refine S.addN rfl rfl rfl (by omega) ?_
        | refine S.add rfl rfl rfl ?_
      refine S.assignT rfl ?_
      refine WS.done ?_
      exact ⟨_, (by omega), ⟨i + 1, rfl, (by omega), rfl, ⟨rfl, rfl, rfl, rfl, rfl, rfl, rfl, rfl, rfl, rfl, trivial⟩, hS5005⟩⟩
    ·
      skip
      refine WR.exit ?_
      refine WR.seq ?_
      have hs1 := hG23.same hG34
      have hs2 := hG28.same hG40
      refine WR.regionQ mixed hS1001 (by kernel_rfl) rfl ?_
      refine Q.loadBA (i := 3) rfl Try.underlying23 rfl ti23 rfl rfl rfl rfl ?_
      refine Q.call ent12 rfl (fun w hQ => l3_of hQ ) rfl ?_
      refine Q.loadBA (i := 1) rfl Try.underlying31 rfl ti31 rfl rfl rfl rfl ?_
      refine Q.eqlS rfl rfl (by kernel_rfl) (Eq1.struct Try.underlying31 (by kernel_rfl) (EqF.cons (by decide) (Part1.one Try.underlying2 rfl rfl) (Part1.one Try.underlying2 rfl rfl) (Eq1.int Try.underlying2) (EqF.one (by decide) (Part1.one Try.underlying2 rfl rfl) (Part1.one Try.underlying2 rfl rfl) (Eq1.int Try.underlying2)))) rfl ?_
      refine Q.isTD (d := 61) rfl (by omega) ?_
      refine Q.moveT rfl ?_
      refine Q.moveT rfl ?_
      refine Q.moveT rfl ?_
      refine Q.eql rfl rfl rfl ?_
      refine Q.isTD (d := 65) rfl (by omega) ?_
      refine Q.pickT rfl rfl ?_
      refine Q.moveT rfl ?_
      refine Q.loadBA (i := 2) rfl Try.underlying23 rfl ti23 rfl rfl rfl rfl ?_
      refine Q.call ent12 rfl (fun w hQ => l3_of hQ ) rfl ?_
      refine Q.loadBA (i := 0) rfl Try.underlying31 rfl ti31 rfl rfl rfl rfl ?_
      refine Q.eqlS rfl rfl (by kernel_rfl) (Eq1.struct Try.underlying31 (by kernel_rfl) (EqF.cons (by decide) (Part1.one Try.underlying2 rfl rfl) (Part1.one Try.underlying2 rfl rfl) (Eq1.int Try.underlying2) (EqF.one (by decide) (Part1.one Try.underlying2 rfl rfl) (Part1.one Try.underlying2 rfl rfl) (Eq1.int Try.underlying2)))) rfl ?_
      refine Q.isTD (d := 71) rfl (by omega) ?_
      refine Q.pickT rfl rfl ?_
      refine Q.moveT rfl ?_
      refine Q.moveT rfl ?_
      refine Q.moveT rfl ?_
      refine Q.eql rfl rfl rfl ?_
      refine Q.isTD (d := 76) rfl (by omega) ?_
      refine Q.pickT rfl rfl ?_
      refine Q.assignT rfl ?_
      refine WQ.done ?_
      intro w5006 hS5006
      clear hS1001
      refine WR.ret (ret1 rfl rfl ?_)
      first | exact ⟨rfl, hS5006⟩ | exact ⟨rfl, hS5006.drop.drop.drop.drop.weak (hR20.trans (hR33.trans hR39))⟩


end Go.Proofs.Ytogciedegglogaa.B

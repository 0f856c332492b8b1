import Derived.Test.YtfajmfdoemjacaaWalkA
import Derived.Test.YtfajmfdoemjacaaWalkT
namespace Go.Proofs.Ytfajmfdoemjacaa.B
open Go.Proofs Go.RowKit
set_option linter.unusedVariables false
set_option linter.unusedSimpArgs false
theorem size_take {cs : List ByteArray} {i k : Nat} {u : ByteArray} (h : ∀ x ∈ cs.take i, x.size ≤ k) (hu : cs[i]? = some u) (hk : u.size ≤ k) : ∀ x ∈ cs.take (i + 1), x.size ≤ k := by
  intro x hx
  rw [List.take_add_one, hu] at hx
  rcases List.mem_append.1 hx with hx | hx
  · exact h x hx
  · simp at hx; subst hx; exact hk
theorem ubs_byte {α : Type} (f : α → List Int) : ∀ (xs : List α), (∀ a, ∀ x ∈ f a, 0 ≤ x ∧ x < 256) → ∀ x ∈ xs.flatMap f, 0 ≤ x ∧ x < 256 := by
  intro xs h x hx
  obtain ⟨a, _, ha⟩ := List.mem_flatMap.1 hx
  exact h a x ha
theorem all_byte (us bs : List Int) (cs : List ByteArray) : ∀ x ∈ uB us ++ iB bs ++ tB cs, 0 ≤ x ∧ x < 256 := by
  intro x hx
  rcases List.mem_append.1 hx with hx | hx
  · rcases List.mem_append.1 hx with hx | hx
    · exact ubs_byte _ us (fun a => ub_byte _) x hx
    · exact ubs_byte _ bs (fun a => ub_byte _) x hx
  · refine ubs_byte _ cs (fun a y hy => ?_) x hx
    rcases List.mem_append.1 hy with hy | hy
    · exact ub_byte _ y hy
    · exact sB_byte a y hy
theorem tok_cut {s : Bool × List Int × Int} (h : s.2.2 = 15) : tok s = false := by
  unfold tok
  exact decide_eq_false (fun k => by omega)
theorem rdE_15 (xs : List Int) : rdE xs 15 = 15 := by unfold rdE; rw [if_neg (by omega)]
set_option maxRecDepth 100000 in
set_option maxHeartbeats 4000000 in
theorem law_CodeBack {w : World} {R : Kn} {L : List HP}  (hS : St w R (L)) {va vb vc : Value} {us bs : List Int} {cs : List ByteArray} (ha : Ro R (encI .u64) 1 va us) (hbb : Ro R (encI .i64) 1 vb bs) (hc : Ro R encS 1 vc cs) (hfa : okU us) (hfb : okI bs) (hma : us.length ≤ 140737488355328) (hmb : bs.length ≤ 140737488355328) (hmc : cs.length ≤ 140737488355328) {cut : Int} :
    Fn Try.prog 4 #[va, vb, vc, .int .i64 cut] w (fun v w' => v = .bool true ∧ St w' R L) := by
  obtain ⟨aa, ca, rfl, hla⟩ := ha.len
  obtain ⟨ab, cb, rfl, hlb⟩ := hbb.len
  obtain ⟨ac, cc, rfl, hlc⟩ := hc.len
  refine Fn.intro (n := 76) Try.func4 rfl rfl rfl ?_
  refine WR.seq ?_
  refine WR.region rfl ?_
  refine S.assignC rfl ?_
  refine WS.done ?_
  refine WR.seq ?_
  refine WR.seq ?_
  refine WR.region rfl ?_
  refine S.call ent7 rfl (l6_alive hS ) rfl ?_
  rintro _ w12 ⟨rfl, hS12⟩
  clear hS
  refine S.not rfl rfl ?_
  refine WS.done ?_
  refine WR.condF rfl ?_
  refine WR.skip ?_
  refine WR.seq ?_
  refine WR.seq ?_
  refine WR.region rfl ?_
  refine S.moveT rfl ?_
  refine S.lenSl Try.underlying22 rfl rfl ?_
  refine S.moveT rfl ?_
  refine S.lenSl Try.underlying23 rfl rfl ?_
  first
    | refine S.addN rfl rfl rfl (by omega) ?_
    | refine S.add rfl rfl rfl ?_
  refine S.moveT rfl ?_
  refine S.lenSl Try.underlying24 rfl rfl ?_
  first
    | refine S.addN rfl rfl rfl (by omega) ?_
    | refine S.add rfl rfl rfl ?_
  refine S.gtr rfl rfl rfl ?_
  refine WS.done ?_
  refine WR.condD rfl (fun c22 => ?_) (fun c22 => ?_)
  ·
    skip
    refine WR.seq ?_
    refine WR.region rfl ?_
    refine S.assignC rfl ?_
    refine WS.done ?_
    refine WR.ret (ret1 rfl rfl ?_)
    first | exact ⟨rfl, hS12⟩ | exact ⟨rfl, hS12.weak (hR42.trans hR44)⟩ | exact ⟨rfl, hS12.weak (hR42.trans (hR44.trans hR62))⟩
  ·
    skip
    refine WR.skip ?_
    refine WR.seq ?_
    refine WR.seq ?_
    refine WR.region rfl ?_
    refine S.assignC rfl ?_
    refine WS.done ?_
    refine WR.block ?_
    refine WR.loopE (fun rq mm rr wr => ∃ (i : Nat), mm = cs.length - i ∧ (i ≤ cs.length ∧ (∀ x ∈ cs.take i, x.size ≤ 300)) ∧ rr 9 = .int .i64 (i : Int) ∧ Agr [0, 1, 2, 3] rr rq ∧ St wr R L) ⟨0, rfl, (by exact ⟨by omega, fun x h => by simp at h⟩), rfl, ⟨rfl, rfl, rfl, rfl, trivial⟩, hS12⟩ ?_
    rintro mm rr w1001 ⟨i, hm1001, ⟨hi, hsz⟩, hr1001_9, hA1001, hS1001⟩
    obtain ⟨rr, rfl⟩ := agrBack hA1001
    clear hA1001
    obtain ⟨rr, rfl⟩ := back1 (r := rr) hr1001_9
    clear hr1001_9
    refine WR.seq ?_
    refine WR.seq ?_
    refine WR.region rfl ?_
    refine S.moveT rfl ?_
    refine S.moveT rfl ?_
    refine S.lenSl Try.underlying24 rfl rfl ?_
    refine S.lss rfl rfl rfl ?_
    refine WS.done ?_
    refine WR.condD rfl (fun c26 => ?_) (fun c26 => ?_)
    ·
      skip
      refine WR.skip ?_
      refine WR.seq ?_
      refine WR.block ?_
      refine WR.seq ?_
      refine WR.region rfl ?_
      refine S.moveT rfl ?_
      refine S.moveT rfl ?_
      refine S.indexRo hc Try.underlying24 ti9 rfl rfl (by omega) rfl ?_
      intro ad31 u31 hu31 hl31 hc31
      refine S.loadRo hS1001 hc31 rfl Try.underlying9 rfl rfl rfl ?_
      refine S.lenStr Try.underlying9 rfl rfl ?_
      refine S.gtr rfl rfl rfl ?_
      refine WS.done ?_
      refine WR.condD rfl (fun c34 => ?_) (fun c34 => ?_)
      ·
        skip
        refine WR.seq ?_
        refine WR.region rfl ?_
        refine S.assignC rfl ?_
        refine WS.done ?_
        refine WR.ret (ret1 rfl rfl ?_)
        first | exact ⟨rfl, hS1001⟩ | exact ⟨rfl, hS1001.weak (hR42.trans hR44)⟩ | exact ⟨rfl, hS1001.weak (hR42.trans (hR44.trans hR62))⟩
      ·
        skip
        refine WR.skip ?_
        refine WR.region rfl ?_
        refine S.moveT rfl ?_
        first
          | refine S.addN rfl rfl rfl (by omega) ?_
          | refine S.add rfl rfl rfl ?_
        refine S.assignT rfl ?_
        refine WS.done ?_
        exact ⟨_, (by omega), ⟨i + 1, rfl, (by exact ⟨by omega, size_take hsz (getI hu31) (by omega)⟩), rfl, ⟨rfl, rfl, rfl, rfl, trivial⟩, hS1001⟩⟩
    ·
      skip
      refine WR.exit ?_
      refine WR.seq ?_
      refine WR.region rfl ?_
      rw [List.take_of_length_le (by omega)] at hsz
      have hlu := uB_len hfa us.length
      rw [List.take_length] at hlu
      have hli := iB_len hfb bs.length
      rw [List.take_length] at hli
      have hlt := tB_len cs (fun x hx => Nat.le_trans (hsz x hx) (by decide))
      have hby := all_byte us bs cs
      have hll : (uB us ++ iB bs ++ tB cs).length = (uB us).length + (iB bs).length + (tB cs).length := by rw [List.length_append, List.length_append]
      refine S.moveT rfl ?_
      refine S.call ent16 rfl (c_uints hS1001 (by exact ha) (by exact hfa) (by omega)) rfl ?_
      rintro v36 w36 hS36
      clear hS1001
      refine S.moveT rfl ?_
      refine S.call ent17 rfl (c_ints hS36 (by exact hbb) (by exact hfb) (by omega)) rfl ?_
      rintro v38 w38 hS38
      clear hS36
      refine S.appendOO (i := 0) hS38 rfl Try.underlying26 ti5 rfl rfl rfl rfl encI_one (by omega) rfl ?_
      intro v39 w39 hS39; clear hS38
      refine S.moveT rfl ?_
      refine S.call ent18 rfl (c_texts hS39 (by exact hc) (by exact (fun x hx => Nat.le_trans (hsz x hx) (by decide))) (by omega)) rfl ?_
      rintro v41 w41 hS41
      clear hS39
      refine S.appendOO (i := 0) hS41 rfl Try.underlying26 ti5 rfl rfl rfl rfl encI_one (by rw [List.length_append]; omega) rfl ?_
      intro v42 w42 hS42; clear hS41
      obtain ⟨R42, hR42, hro42, hSf42⟩ := hS42.freeze (fun _ _ => rfl)
      obtain ⟨a42, d42, rfl, hl42⟩ := hro42.len
      replace ha := ha.mono hR42
      replace hbb := hbb.mono hR42
      replace hc := hc.mono hR42
      refine S.assignT rfl ?_
      refine WS.done ?_
      refine WR.seq ?_
      refine WR.seq ?_
      refine WR.region rfl ?_
      refine S.moveT rfl ?_
      refine S.call ent21 rfl (r_copyBytes hSf42 (by exact hro42) (by omega)) rfl ?_
      rintro v44 w44 hS44
      clear hSf42
      obtain ⟨R44, hR44, hro44, hSf44⟩ := hS44.freeze (fun _ _ => rfl)
      replace ha := ha.mono hR44
      replace hbb := hbb.mono hR44
      replace hc := hc.mono hR44
      replace hro42 := hro42.mono hR44
      refine S.call ent20 rfl (c_new hSf44 (by exact hro44)) rfl ?_
      rintro _ w45 ⟨b45, rfl, hS45⟩
      clear hSf44
      refine S.moveT rfl ?_
      refine S.moveT rfl ?_
      refine S.moveT rfl ?_
      refine S.call ent19 rfl (l6_told hS45 (by exact hro44) (by exact hby) (by omega) (by exact ha) (by exact hbb) (by exact hc) (by omega) (by omega) (by omega)) rfl ?_
      rintro _ w49 ⟨v149, rfl, hS49⟩
      clear hS45
      refine S.as (d := 49) rfl (congrArg Value.bool (by rw [tA_full hfa hfb hsz]; rfl : _ = true)) ?_
      refine S.not rfl rfl ?_
      refine WS.done ?_
      refine WR.condF rfl ?_
      refine WR.skip ?_
      refine WR.seq ?_
      refine WR.seq ?_
      refine WR.region rfl ?_
      refine S.moveT rfl ?_
      refine S.lss rfl rfl rfl ?_
      refine S.moveT rfl ?_
      refine S.splitD (d := 53) rfl (fun c53 => ?_) (fun c53 => ?_)
      ·
        skip
        refine S.off rfl ?_
        refine S.off rfl ?_
        refine S.off rfl ?_
        refine S.off rfl ?_
        refine S.pickTC rfl rfl ?_
        refine WS.done ?_
        refine WR.condT rfl ?_
        refine WR.seq ?_
        refine WR.region rfl ?_
        refine S.assignC rfl ?_
        refine WS.done ?_
        refine WR.ret (ret1 rfl rfl ?_)
        first | exact ⟨rfl, hS49⟩ | exact ⟨rfl, hS49.drop.weak (hR42.trans hR44)⟩ | exact ⟨rfl, hS49.drop.weak (hR42.trans (hR44.trans hR62))⟩
      ·
        skip
        refine S.moveT rfl ?_
        refine S.moveT rfl ?_
        refine S.lenSl Try.underlying26 rfl rfl ?_
        refine S.geq rfl rfl rfl ?_
        refine S.pickF rfl rfl ?_
        refine WS.done ?_
        refine WR.condD rfl (fun c58 => ?_) (fun c58 => ?_)
        ·
          skip
          refine WR.seq ?_
          refine WR.region rfl ?_
          refine S.assignC rfl ?_
          refine WS.done ?_
          refine WR.ret (ret1 rfl rfl ?_)
          first | exact ⟨rfl, hS49⟩ | exact ⟨rfl, hS49.drop.weak (hR42.trans hR44)⟩ | exact ⟨rfl, hS49.drop.weak (hR42.trans (hR44.trans hR62))⟩
        ·
          skip
          refine WR.skip ?_
          refine WR.seq ?_
          refine Exists.elim (show ∃ m : Nat, cut = (m : Int) from ⟨cut.toNat, by omega⟩) ?_
          rintro m rfl
          refine WR.region rfl ?_
          refine S.moveT rfl ?_
          refine S.moveT rfl ?_
          refine S.sliceHi (m) hro42 Try.underlying26 ti5 rfl rfl (by omega) (by omega) rfl ?_
          intro a61 cc61 hro61
          have hbc : ∀ x ∈ (uB us ++ iB bs ++ tB cs).take m, 0 ≤ x ∧ x < 256 := fun x hx => hby x (List.mem_of_mem_take hx)
          refine S.call ent21 rfl (r_copyBytes hS49 (by exact hro61) (by rw [List.length_take]; omega)) rfl ?_
          rintro v62 w62 hS62
          clear hS49
          obtain ⟨R62, hR62, hro62, hSf62⟩ := hS62.freeze (fun _ _ => rfl)
          replace ha := ha.mono hR62
          replace hbb := hbb.mono hR62
          replace hc := hc.mono hR62
          replace hro42 := hro42.mono hR62
          replace hro44 := hro44.mono hR62
          replace hro61 := hro61.mono hR62
          refine S.call ent20 rfl (c_new hSf62 (by exact hro62)) rfl ?_
          rintro _ w63 ⟨b63, rfl, hS63⟩
          clear hSf62
          refine S.assignT rfl ?_
          refine WS.done ?_
          refine WR.seq ?_
          refine WR.seq ?_
          refine WR.region rfl ?_
          refine S.moveT rfl ?_
          refine S.eqlNil Try.underlying39 rfl rfl rfl ?_
          refine S.moveT rfl ?_
          refine S.moveT rfl ?_
          refine S.moveT rfl ?_
          refine S.moveT rfl ?_
          refine S.moveT rfl ?_
          refine S.call ent19 rfl (l6_told hS63 (by exact hro62) (by exact hbc) (by rw [List.length_take]; omega) (by exact ha) (by exact hbb) (by exact hc) (by omega) (by omega) (by omega)) rfl ?_
          rintro _ w71 ⟨v171, rfl, hS71⟩
          clear hS63
          have hcut := tA_cut (m := m) hfa hfb hsz (by omega)
          refine S.as (d := 71) rfl (congrArg Value.bool (tok_cut hcut)) ?_
          rw [hcut, rdE_15] at hS71
          refine S.pickF rfl rfl ?_
          refine WS.done ?_
          refine WR.condF rfl ?_
          refine WR.skip ?_
          refine WR.seq ?_
          refine WR.region rfl ?_
          refine S.moveT rfl ?_
          refine S.call ent22 rfl (c_err hS71 ) rfl ?_
          rintro _ w74 ⟨rfl, hS74⟩
          clear hS71
          refine S.eql rfl rfl rfl ?_
          refine S.isTD (d := 75) rfl (by rfl) ?_
          refine S.assignT rfl ?_
          refine WS.done ?_
          refine WR.ret (ret1 rfl rfl ?_)
          first | exact ⟨rfl, hS74⟩ | exact ⟨rfl, hS74.drop.drop.weak (hR42.trans hR44)⟩ | exact ⟨rfl, hS74.drop.drop.weak (hR42.trans (hR44.trans hR62))⟩


end Go.Proofs.Ytfajmfdoemjacaa.B

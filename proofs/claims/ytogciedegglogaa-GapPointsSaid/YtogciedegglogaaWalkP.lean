import Derived.Test.YtogciedegglogaaWalkA
namespace Go.Proofs.Ytogciedegglogaa.B
open Go.Proofs Go.RowKit
set_option linter.unusedVariables false
set_option linter.unusedSimpArgs false
def EachP (x : Int) (l : List (Int × Int)) : Prop := ∀ g ∈ l, g.1 ≤ x ∧ x ≤ g.2
def SomeP (x : Int) (l : List (Int × Int)) : Prop := ∃ g ∈ l, g.1 ≤ x ∧ x ≤ g.2
theorem EachP.succ {x : Int} {xs : List (Int × Int)} {i : Nat} {u : Int × Int} (hu : xs[i]? = some u) : EachP x (xs.take (i + 1)) ↔ EachP x (xs.take i) ∧ (u.1 ≤ x ∧ x ≤ u.2) := each_succ (P := fun g : Int × Int => g.1 ≤ x ∧ x ≤ g.2) hu
theorem SomeP.succ {x : Int} {xs : List (Int × Int)} {i : Nat} {u : Int × Int} (hu : xs[i]? = some u) : SomeP x (xs.take (i + 1)) ↔ SomeP x (xs.take i) ∨ (u.1 ≤ x ∧ x ≤ u.2) := some_succ (P := fun g : Int × Int => g.1 ≤ x ∧ x ≤ g.2) hu
set_option maxRecDepth 100000 in
set_option maxHeartbeats 4000000 in
theorem law_GapPoints {w : World} {R : Kn} {L : List HP} (hS : St w R (L)) {v0 : Value} {xs : List (Int × Int)} (hf : ∀ x ∈ xs, lim x) (h0 : Ro R gpE 2 v0 xs) (hm : xs.length ≤ 140737488351232) {x y : Int} (hx : fits x) (hy : 0 ≤ y ∧ y ≤ 4294967295) :
    Fn Try.prog 5 #[v0, .int .i64 x, .int .u32 y] w (fun v w' => v = .bool true ∧ St w' R L) := by
  obtain ⟨a0, c0, rfl, hl0⟩ := h0.len
  have hyf : fits y := by unfold fits; omega
  refine Fn.intro (n := 153) Try.func5 rfl rfl rfl ?_
  refine WR.seq ?_
  refine WR.region rfl ?_
  refine S.assignC rfl ?_
  refine WS.done ?_
  refine WR.seq ?_
  refine WR.seq ?_
  refine WR.region rfl ?_
  refine S.call ent7 rfl (l3_alive hS ) rfl ?_
  rintro _ w18 ⟨rfl, hS18⟩
  clear hS
  refine S.not rfl rfl ?_
  refine WS.done ?_
  refine WR.condF rfl ?_
  refine WR.skip ?_
  refine WR.seq ?_
  refine WR.seq ?_
  refine WR.region rfl ?_
  refine S.moveT rfl ?_
  refine S.lenSl Try.underlying43 rfl rfl ?_
  refine S.gtr rfl rfl rfl ?_
  refine WS.done ?_
  refine WR.condD rfl (fun c22 => ?_) (fun c22 => ?_)
  ·
    skip
    refine WR.seq ?_
    refine WR.region rfl ?_
    refine S.assignC rfl ?_
    refine WS.done ?_
    refine WR.ret (ret1 rfl rfl ?_)
    first | exact ⟨rfl, hS18⟩ | exact ⟨rfl, hS18.drop⟩ | exact ⟨rfl, hS18.drop.drop⟩
  ·
    skip
    refine WR.skip ?_
    refine WR.seq ?_
    refine WR.region rfl ?_
    refine S.assignC rfl ?_
    refine WS.done ?_
    refine WR.seq ?_
    refine WR.region rfl ?_
    refine S.assignC rfl ?_
    refine WS.done ?_
    refine WR.seq ?_
    refine WR.seq ?_
    refine WR.region rfl ?_
    refine S.assignC rfl ?_
    refine WS.done ?_
    refine WR.block ?_
    refine WR.loopE (fun rq mm rr wr => ∃ (i : Nat) (ev sm : Bool), mm = xs.length - i ∧ (i ≤ xs.length ∧ (∀ g ∈ xs.take i, g.1 ≤ g.2) ∧ (ev = true ↔ EachP x (xs.take i)) ∧ (sm = true ↔ SomeP x (xs.take i))) ∧ rr 7 = .bool ev ∧ rr 8 = .bool sm ∧ rr 9 = .int .i64 (i : Int) ∧ Agr [0, 1, 2] rr rq ∧ St wr R L) ⟨0, true, false, rfl, (by exact ⟨by omega, fun x h => by simp at h, ⟨fun _ x h => by simp at h, fun _ => rfl⟩, ⟨fun h => (by cases h), fun ⟨x, h, _⟩ => by simp at h⟩⟩), rfl, rfl, rfl, ⟨rfl, rfl, rfl, trivial⟩, hS18⟩ ?_
    rintro mm rr w1001 ⟨i, ev, sm, hm1001, ⟨hi, hall, hev, hsm⟩, hr1001_7, hr1001_8, hr1001_9, hA1001, hS1001⟩
    obtain ⟨rr, rfl⟩ := agrBack hA1001
    clear hA1001
    obtain ⟨rr, rfl⟩ := back3 (r := rr) hr1001_7 hr1001_8 hr1001_9
    clear hr1001_7 hr1001_8 hr1001_9
    refine WR.seq ?_
    refine WR.seq ?_
    refine WR.region rfl ?_
    refine S.moveT rfl ?_
    refine S.moveT rfl ?_
    refine S.lenSl Try.underlying43 rfl rfl ?_
    refine S.lss rfl rfl rfl ?_
    refine WS.done ?_
    refine WR.condD rfl (fun c26 => ?_) (fun c26 => ?_)
    ·
      skip
      refine WR.skip ?_
      refine WR.seq ?_
      refine WR.block ?_
      refine WR.seq ?_
      refine WR.region rfl ?_
      refine S.moveT rfl ?_
      refine S.moveT rfl ?_
      refine S.indexRo h0 Try.underlying43 ti23 rfl rfl (by omega) rfl ?_
      intro ad31 u31 hu31 hl31 hc31
      have hmem := List.mem_of_getElem? hu31
      obtain ⟨hg1, hg2⟩ := hf u31 hmem
      have hh1 := id hg1
      have hh2 := id hg2
      unfold fits at hh1 hh2
      have hw := wd_cases u31.1 u31.2
      have hmd := md_cases u31.1 u31.2
      refine S.loadRoA hS1001 hc31 hl31 Try.underlying23 rfl ti23 rfl rfl ?_
      refine S.alloc hS1001 ti23 rfl rfl ?_
      intro b10 w10 hS10; clear hS1001
      refine S.storeB (i := 0) hS10 rfl ti23 rfl rfl rfl rfl rfl rfl rfl rfl ?_
      intro w2001 hS2001; clear hS10
      refine WS.done ?_
      refine WR.seq ?_
      refine WR.seq ?_
      refine WR.region rfl ?_
      refine S.loadBA (i := 0) hS2001 rfl Try.underlying23 rfl ti23 rfl rfl rfl rfl ?_
      refine S.call ent14 rfl (g_right hS2001 ) rfl ?_
      rintro _ w34 ⟨rfl, hS34⟩
      clear hS2001
      refine S.notD rfl rfl ?_
      refine WS.done ?_
      refine WR.condD rfl (fun c35 => ?_) (fun c35 => ?_)
      ·
        skip
        refine WR.seq ?_
        refine WR.region rfl ?_
        refine S.assignC rfl ?_
        refine WS.done ?_
        refine WR.ret (ret1 rfl rfl ?_)
        first | exact ⟨rfl, hS34⟩ | exact ⟨rfl, hS34.drop⟩ | exact ⟨rfl, hS34.drop.drop⟩
      ·
        skip
        refine WR.skip ?_
        refine WR.seq ?_
        refine WR.region rfl ?_
        refine S.moveT rfl ?_
        refine S.moveT rfl ?_
        refine S.splitB (d := 37) rfl (fun c37 => ?_) (fun c37 => ?_)
        ·
          skip
          refine S.loadBA (i := 0) hS34 rfl Try.underlying23 rfl ti23 rfl rfl rfl rfl ?_
          refine S.moveT rfl ?_
          refine S.call ent17 rfl (g_has hS34 ) rfl ?_
          rintro _ w40 ⟨rfl, hS40⟩
          clear hS34
          refine S.pickT rfl rfl ?_
          refine S.assignT rfl ?_
          refine WS.done ?_
          refine WR.seq ?_
          refine WR.region rfl ?_
          refine S.moveT rfl ?_
          refine S.moveT rfl ?_
          refine S.splitB (d := 43) rfl (fun c43 => ?_) (fun c43 => ?_)
          ·
            skip
            refine S.off rfl ?_
            refine S.off rfl ?_
            refine S.off rfl ?_
            refine S.pickTC rfl rfl ?_
            refine S.assignT rfl ?_
            refine WS.done ?_
            refine WR.seq ?_
            refine WR.seq ?_
            refine WR.regionQ mixed hS40 (by kernel_rfl) rfl ?_
            refine Q.loadBA (i := 0) rfl Try.underlying23 rfl ti23 rfl rfl rfl rfl ?_
            refine Q.loadBA (i := 0) rfl Try.underlying23 rfl ti23 rfl rfl rfl rfl ?_
            refine Q.call ent15 rfl (fun w hQ => g_mid hQ (by exact hg1) (by exact hg2)) rfl ?_
            refine Q.call ent17 rfl (fun w hQ => g_has hQ ) rfl ?_
            refine Q.isTD (d := 51) rfl (by omega) ?_
            refine Q.not rfl rfl ?_
            refine Q.moveT rfl ?_
            refine Q.loadBA (i := 0) rfl Try.underlying23 rfl ti23 rfl rfl rfl rfl ?_
            refine Q.fieldB Try.underlying23 rfl ti2 rfl rfl rfl rfl ?_
            refine Q.loadB (i := 0) rfl Try.underlying2 rfl rfl rfl rfl ?_
            refine Q.call ent17 rfl (fun w hQ => g_has hQ ) rfl ?_
            refine Q.isTD (d := 57) rfl (by omega) ?_
            refine Q.not rfl rfl ?_
            refine Q.pickF rfl rfl ?_
            refine Q.moveT rfl ?_
            refine Q.loadBA (i := 0) rfl Try.underlying23 rfl ti23 rfl rfl rfl rfl ?_
            refine Q.fieldB Try.underlying23 rfl ti2 rfl rfl rfl rfl ?_
            refine Q.loadB (i := 0) rfl Try.underlying2 rfl rfl rfl rfl ?_
            refine Q.call ent17 rfl (fun w hQ => g_has hQ ) rfl ?_
            refine Q.isTD (d := 64) rfl (by omega) ?_
            refine Q.not rfl rfl ?_
            refine Q.pickF rfl rfl ?_
            refine WQ.done ?_
            intro w5002 hS5002
            clear hS40
            refine WR.condF rfl ?_
            refine WR.skip ?_
            refine WR.seq ?_
            refine WR.region rfl ?_
            refine S.loadBA (i := 0) hS5002 rfl Try.underlying23 rfl ti23 rfl rfl rfl rfl ?_
            refine S.moveT rfl ?_
            first
              | refine S.convN Try.underlying49 Try.underlying2 rfl rfl (wrap_i64 (by omega) (by omega)) ?_
              | refine S.conv Try.underlying49 Try.underlying2 rfl rfl ?_
            refine S.moveT rfl ?_
            first
              | refine S.convN Try.underlying49 Try.underlying2 rfl rfl (wrap_i64 (by omega) (by omega)) ?_
              | refine S.conv Try.underlying49 Try.underlying2 rfl rfl ?_
            refine S.call ent10 rfl (g_grow hS5002 (by exact hg1) (by exact hg2) (by exact hyf) (by exact hyf)) rfl ?_
            rintro _ w73 ⟨p73, q73, e73, rfl, hG73, hS73⟩
            clear hS5002
            have hw2 := wd_cases p73 q73
            have hp73 : fits p73 := by unfold fits; omega
            have hq73 : fits q73 := by unfold fits; omega
            refine S.moveT rfl ?_
            refine S.extract rfl rfl rfl ?_
            refine S.extract rfl rfl rfl ?_
            refine S.alloc hS73 ti23 rfl rfl ?_
            intro b11 w11 hS11; clear hS73
            refine S.storeB (i := 0) hS11 rfl ti23 rfl rfl rfl rfl rfl rfl rfl rfl ?_
            intro w2003 hS2003; clear hS11
            refine S.assignT rfl ?_
            refine WS.done ?_
            refine WR.seq ?_
            refine WR.regionQ mixed hS2003 (by kernel_rfl) rfl ?_
            refine Q.moveT rfl ?_
            refine Q.eql rfl rfl rfl ?_
            refine Q.moveT rfl ?_
            refine Q.splitD (d := 78) rfl (fun c78 => ?_) (fun c78 => ?_)
            ·
              skip
              refine Q.loadBA (i := 1) rfl Try.underlying23 rfl ti23 rfl rfl rfl rfl ?_
              refine Q.loadBA (i := 0) rfl Try.underlying23 rfl ti23 rfl rfl rfl rfl ?_
              refine Q.call ent18 rfl (fun w hQ => g_within hQ ) rfl ?_
              refine Q.isTD (d := 81) rfl (by omega) ?_
              refine Q.not rfl rfl ?_
              refine Q.moveT rfl ?_
              refine Q.loadBA (i := 0) rfl Try.underlying23 rfl ti23 rfl rfl rfl rfl ?_
              refine Q.call ent19 rfl (fun w hQ => g_width hQ (by exact hp73) (by exact hq73)) rfl ?_
              refine Q.loadBA (i := 1) rfl Try.underlying23 rfl ti23 rfl rfl rfl rfl ?_
              refine Q.call ent19 rfl (fun w hQ => g_width hQ (by exact hg1) (by exact hg2)) rfl ?_
              refine Q.moveT rfl ?_
              first
                | refine Q.convN Try.underlying49 Try.underlying40 rfl rfl (wrap_u64 (by omega) (by omega)) ?_
                | refine Q.conv Try.underlying49 Try.underlying40 rfl rfl ?_
              first
                | refine Q.mulU rfl rfl rfl (by omega) ?_
                | refine Q.mul rfl rfl rfl ?_
              first
                | refine Q.addU rfl rfl rfl (by omega) ?_
                | refine Q.add rfl rfl rfl ?_
              refine Q.neq rfl rfl rfl ?_
              refine Q.isFD (d := 92) rfl (by omega) ?_
              refine Q.pickF rfl rfl ?_
              refine Q.pickT rfl rfl ?_
              refine WQ.done ?_
              intro w5004 hS5004
              clear hS2003
              refine WR.condF rfl ?_
              refine WR.skip ?_
              refine WR.region rfl ?_
              refine S.moveT rfl ?_
              first
                | refine S.addN rfl rfl rfl (by omega) ?_
                | refine S.add rfl rfl rfl ?_
              refine S.assignT rfl ?_
              refine WS.done ?_
              exact ⟨_, (by omega), ⟨i + 1, _, _, rfl, (by exact ⟨by omega, all_take hall (getZ hu31) (by omega), by first | exact (by rw [EachP.succ (getZ hu31), decide_eq_true_iff]; exact ⟨fun h => ⟨hev.1 c37, h⟩, fun h => h.2⟩) | exact (by rw [EachP.succ (getZ hu31)]; exact ⟨fun h => (by cases h), fun h => (by rw [hev.2 h.1] at c37; cases c37)⟩), by first | exact (by rw [SomeP.succ (getZ hu31)]; exact ⟨fun _ => .inl (hsm.1 c43), fun _ => rfl⟩) | exact (by rw [SomeP.succ (getZ hu31), decide_eq_true_iff]; exact ⟨fun h => .inr h, fun h => h.resolve_left (fun h => by rw [hsm.2 h] at c43; cases c43)⟩)⟩), rfl, rfl, rfl, ⟨rfl, rfl, rfl, trivial⟩, hS5004.drop.drop⟩⟩
            ·
              skip
              refine Q.off rfl ?_
              refine Q.off rfl ?_
              refine Q.off rfl ?_
              refine Q.off rfl ?_
              refine Q.off rfl ?_
              refine Q.off rfl ?_
              refine Q.off rfl ?_
              refine Q.off rfl ?_
              refine Q.off rfl ?_
              refine Q.off rfl ?_
              refine Q.off rfl ?_
              refine Q.off rfl ?_
              refine Q.off rfl ?_
              refine Q.off rfl ?_
              refine Q.off rfl ?_
              refine Q.pickFC rfl rfl ?_
              refine WQ.done ?_
              intro w5005 hS5005
              clear hS2003
              refine WR.condF rfl ?_
              refine WR.skip ?_
              refine WR.region rfl ?_
              refine S.moveT rfl ?_
              first
                | refine S.addN rfl rfl rfl (by omega) ?_
                | refine S.add rfl rfl rfl ?_
              refine S.assignT rfl ?_
              refine WS.done ?_
              exact ⟨_, (by omega), ⟨i + 1, _, _, rfl, (by exact ⟨by omega, all_take hall (getZ hu31) (by omega), by first | exact (by rw [EachP.succ (getZ hu31), decide_eq_true_iff]; exact ⟨fun h => ⟨hev.1 c37, h⟩, fun h => h.2⟩) | exact (by rw [EachP.succ (getZ hu31)]; exact ⟨fun h => (by cases h), fun h => (by rw [hev.2 h.1] at c37; cases c37)⟩), by first | exact (by rw [SomeP.succ (getZ hu31)]; exact ⟨fun _ => .inl (hsm.1 c43), fun _ => rfl⟩) | exact (by rw [SomeP.succ (getZ hu31), decide_eq_true_iff]; exact ⟨fun h => .inr h, fun h => h.resolve_left (fun h => by rw [hsm.2 h] at c43; cases c43)⟩)⟩), rfl, rfl, rfl, ⟨rfl, rfl, rfl, trivial⟩, hS5005.drop.drop⟩⟩
          ·
            skip
            refine S.loadBA (i := 0) hS40 rfl Try.underlying23 rfl ti23 rfl rfl rfl rfl ?_
            refine S.moveT rfl ?_
            refine S.call ent17 rfl (g_has hS40 ) rfl ?_
            rintro _ w46 ⟨rfl, hS46⟩
            clear hS40
            refine S.pickF rfl rfl ?_
            refine S.assignT rfl ?_
            refine WS.done ?_
            refine WR.seq ?_
            refine WR.seq ?_
            refine WR.regionQ mixed hS46 (by kernel_rfl) rfl ?_
            refine Q.loadBA (i := 0) rfl Try.underlying23 rfl ti23 rfl rfl rfl rfl ?_
            refine Q.loadBA (i := 0) rfl Try.underlying23 rfl ti23 rfl rfl rfl rfl ?_
            refine Q.call ent15 rfl (fun w hQ => g_mid hQ (by exact hg1) (by exact hg2)) rfl ?_
            refine Q.call ent17 rfl (fun w hQ => g_has hQ ) rfl ?_
            refine Q.isTD (d := 51) rfl (by omega) ?_
            refine Q.not rfl rfl ?_
            refine Q.moveT rfl ?_
            refine Q.loadBA (i := 0) rfl Try.underlying23 rfl ti23 rfl rfl rfl rfl ?_
            refine Q.fieldB Try.underlying23 rfl ti2 rfl rfl rfl rfl ?_
            refine Q.loadB (i := 0) rfl Try.underlying2 rfl rfl rfl rfl ?_
            refine Q.call ent17 rfl (fun w hQ => g_has hQ ) rfl ?_
            refine Q.isTD (d := 57) rfl (by omega) ?_
            refine Q.not rfl rfl ?_
            refine Q.pickF rfl rfl ?_
            refine Q.moveT rfl ?_
            refine Q.loadBA (i := 0) rfl Try.underlying23 rfl ti23 rfl rfl rfl rfl ?_
            refine Q.fieldB Try.underlying23 rfl ti2 rfl rfl rfl rfl ?_
            refine Q.loadB (i := 0) rfl Try.underlying2 rfl rfl rfl rfl ?_
            refine Q.call ent17 rfl (fun w hQ => g_has hQ ) rfl ?_
            refine Q.isTD (d := 64) rfl (by omega) ?_
            refine Q.not rfl rfl ?_
            refine Q.pickF rfl rfl ?_
            refine WQ.done ?_
            intro w5006 hS5006
            clear hS46
            refine WR.condF rfl ?_
            refine WR.skip ?_
            refine WR.seq ?_
            refine WR.region rfl ?_
            refine S.loadBA (i := 0) hS5006 rfl Try.underlying23 rfl ti23 rfl rfl rfl rfl ?_
            refine S.moveT rfl ?_
            first
              | refine S.convN Try.underlying49 Try.underlying2 rfl rfl (wrap_i64 (by omega) (by omega)) ?_
              | refine S.conv Try.underlying49 Try.underlying2 rfl rfl ?_
            refine S.moveT rfl ?_
            first
              | refine S.convN Try.underlying49 Try.underlying2 rfl rfl (wrap_i64 (by omega) (by omega)) ?_
              | refine S.conv Try.underlying49 Try.underlying2 rfl rfl ?_
            refine S.call ent10 rfl (g_grow hS5006 (by exact hg1) (by exact hg2) (by exact hyf) (by exact hyf)) rfl ?_
            rintro _ w73 ⟨p73, q73, e73, rfl, hG73, hS73⟩
            clear hS5006
            have hw2 := wd_cases p73 q73
            have hp73 : fits p73 := by unfold fits; omega
            have hq73 : fits q73 := by unfold fits; omega
            refine S.moveT rfl ?_
            refine S.extract rfl rfl rfl ?_
            refine S.extract rfl rfl rfl ?_
            refine S.alloc hS73 ti23 rfl rfl ?_
            intro b11 w11 hS11; clear hS73
            refine S.storeB (i := 0) hS11 rfl ti23 rfl rfl rfl rfl rfl rfl rfl rfl ?_
            intro w2007 hS2007; clear hS11
            refine S.assignT rfl ?_
            refine WS.done ?_
            refine WR.seq ?_
            refine WR.regionQ mixed hS2007 (by kernel_rfl) rfl ?_
            refine Q.moveT rfl ?_
            refine Q.eql rfl rfl rfl ?_
            refine Q.moveT rfl ?_
            refine Q.splitD (d := 78) rfl (fun c78 => ?_) (fun c78 => ?_)
            ·
              skip
              refine Q.loadBA (i := 1) rfl Try.underlying23 rfl ti23 rfl rfl rfl rfl ?_
              refine Q.loadBA (i := 0) rfl Try.underlying23 rfl ti23 rfl rfl rfl rfl ?_
              refine Q.call ent18 rfl (fun w hQ => g_within hQ ) rfl ?_
              refine Q.isTD (d := 81) rfl (by omega) ?_
              refine Q.not rfl rfl ?_
              refine Q.moveT rfl ?_
              refine Q.loadBA (i := 0) rfl Try.underlying23 rfl ti23 rfl rfl rfl rfl ?_
              refine Q.call ent19 rfl (fun w hQ => g_width hQ (by exact hp73) (by exact hq73)) rfl ?_
              refine Q.loadBA (i := 1) rfl Try.underlying23 rfl ti23 rfl rfl rfl rfl ?_
              refine Q.call ent19 rfl (fun w hQ => g_width hQ (by exact hg1) (by exact hg2)) rfl ?_
              refine Q.moveT rfl ?_
              first
                | refine Q.convN Try.underlying49 Try.underlying40 rfl rfl (wrap_u64 (by omega) (by omega)) ?_
                | refine Q.conv Try.underlying49 Try.underlying40 rfl rfl ?_
              first
                | refine Q.mulU rfl rfl rfl (by omega) ?_
                | refine Q.mul rfl rfl rfl ?_
              first
                | refine Q.addU rfl rfl rfl (by omega) ?_
                | refine Q.add rfl rfl rfl ?_
              refine Q.neq rfl rfl rfl ?_
              refine Q.isFD (d := 92) rfl (by omega) ?_
              refine Q.pickF rfl rfl ?_
              refine Q.pickT rfl rfl ?_
              refine WQ.done ?_
              intro w5008 hS5008
              clear hS2007
              refine WR.condF rfl ?_
              refine WR.skip ?_
              refine WR.region rfl ?_
              refine S.moveT rfl ?_
              first
                | refine S.addN rfl rfl rfl (by omega) ?_
                | refine S.add rfl rfl rfl ?_
              refine S.assignT rfl ?_
              refine WS.done ?_
              exact ⟨_, (by omega), ⟨i + 1, _, _, rfl, (by exact ⟨by omega, all_take hall (getZ hu31) (by omega), by first | exact (by rw [EachP.succ (getZ hu31), decide_eq_true_iff]; exact ⟨fun h => ⟨hev.1 c37, h⟩, fun h => h.2⟩) | exact (by rw [EachP.succ (getZ hu31)]; exact ⟨fun h => (by cases h), fun h => (by rw [hev.2 h.1] at c37; cases c37)⟩), by first | exact (by rw [SomeP.succ (getZ hu31)]; exact ⟨fun _ => .inl (hsm.1 c43), fun _ => rfl⟩) | exact (by rw [SomeP.succ (getZ hu31), decide_eq_true_iff]; exact ⟨fun h => .inr h, fun h => h.resolve_left (fun h => by rw [hsm.2 h] at c43; cases c43)⟩)⟩), rfl, rfl, rfl, ⟨rfl, rfl, rfl, trivial⟩, hS5008.drop.drop⟩⟩
            ·
              skip
              refine Q.off rfl ?_
              refine Q.off rfl ?_
              refine Q.off rfl ?_
              refine Q.off rfl ?_
              refine Q.off rfl ?_
              refine Q.off rfl ?_
              refine Q.off rfl ?_
              refine Q.off rfl ?_
              refine Q.off rfl ?_
              refine Q.off rfl ?_
              refine Q.off rfl ?_
              refine Q.off rfl ?_
              refine Q.off rfl ?_
              refine Q.off rfl ?_
              refine Q.off rfl ?_
              refine Q.pickFC rfl rfl ?_
              refine WQ.done ?_
              intro w5009 hS5009
              clear hS2007
              refine WR.condF rfl ?_
              refine WR.skip ?_
              refine WR.region rfl ?_
              refine S.moveT rfl ?_
              first
                | refine S.addN rfl rfl rfl (by omega) ?_
                | refine S.add rfl rfl rfl ?_
              refine S.assignT rfl ?_
              refine WS.done ?_
              exact ⟨_, (by omega), ⟨i + 1, _, _, rfl, (by exact ⟨by omega, all_take hall (getZ hu31) (by omega), by first | exact (by rw [EachP.succ (getZ hu31), decide_eq_true_iff]; exact ⟨fun h => ⟨hev.1 c37, h⟩, fun h => h.2⟩) | exact (by rw [EachP.succ (getZ hu31)]; exact ⟨fun h => (by cases h), fun h => (by rw [hev.2 h.1] at c37; cases c37)⟩), by first | exact (by rw [SomeP.succ (getZ hu31)]; exact ⟨fun _ => .inl (hsm.1 c43), fun _ => rfl⟩) | exact (by rw [SomeP.succ (getZ hu31), decide_eq_true_iff]; exact ⟨fun h => .inr h, fun h => h.resolve_left (fun h => by rw [hsm.2 h] at c43; cases c43)⟩)⟩), rfl, rfl, rfl, ⟨rfl, rfl, rfl, trivial⟩, hS5009.drop.drop⟩⟩
        ·
          skip
          refine S.off rfl ?_
          refine S.off rfl ?_
          refine S.off rfl ?_
          refine S.pickFC rfl rfl ?_
          refine S.assignT rfl ?_
          refine WS.done ?_
          refine WR.seq ?_
          refine WR.region rfl ?_
          refine S.moveT rfl ?_
          refine S.moveT rfl ?_
          refine S.splitB (d := 43) rfl (fun c43 => ?_) (fun c43 => ?_)
          ·
            skip
            refine S.off rfl ?_
            refine S.off rfl ?_
            refine S.off rfl ?_
            refine S.pickTC rfl rfl ?_
            refine S.assignT rfl ?_
            refine WS.done ?_
            refine WR.seq ?_
            refine WR.seq ?_
            refine WR.regionQ mixed hS34 (by kernel_rfl) rfl ?_
            refine Q.loadBA (i := 0) rfl Try.underlying23 rfl ti23 rfl rfl rfl rfl ?_
            refine Q.loadBA (i := 0) rfl Try.underlying23 rfl ti23 rfl rfl rfl rfl ?_
            refine Q.call ent15 rfl (fun w hQ => g_mid hQ (by exact hg1) (by exact hg2)) rfl ?_
            refine Q.call ent17 rfl (fun w hQ => g_has hQ ) rfl ?_
            refine Q.isTD (d := 51) rfl (by omega) ?_
            refine Q.not rfl rfl ?_
            refine Q.moveT rfl ?_
            refine Q.loadBA (i := 0) rfl Try.underlying23 rfl ti23 rfl rfl rfl rfl ?_
            refine Q.fieldB Try.underlying23 rfl ti2 rfl rfl rfl rfl ?_
            refine Q.loadB (i := 0) rfl Try.underlying2 rfl rfl rfl rfl ?_
            refine Q.call ent17 rfl (fun w hQ => g_has hQ ) rfl ?_
            refine Q.isTD (d := 57) rfl (by omega) ?_
            refine Q.not rfl rfl ?_
            refine Q.pickF rfl rfl ?_
            refine Q.moveT rfl ?_
            refine Q.loadBA (i := 0) rfl Try.underlying23 rfl ti23 rfl rfl rfl rfl ?_
            refine Q.fieldB Try.underlying23 rfl ti2 rfl rfl rfl rfl ?_
            refine Q.loadB (i := 0) rfl Try.underlying2 rfl rfl rfl rfl ?_
            refine Q.call ent17 rfl (fun w hQ => g_has hQ ) rfl ?_
            refine Q.isTD (d := 64) rfl (by omega) ?_
            refine Q.not rfl rfl ?_
            refine Q.pickF rfl rfl ?_
            refine WQ.done ?_
            intro w5010 hS5010
            clear hS34
            refine WR.condF rfl ?_
            refine WR.skip ?_
            refine WR.seq ?_
            refine WR.region rfl ?_
            refine S.loadBA (i := 0) hS5010 rfl Try.underlying23 rfl ti23 rfl rfl rfl rfl ?_
            refine S.moveT rfl ?_
            first
              | refine S.convN Try.underlying49 Try.underlying2 rfl rfl (wrap_i64 (by omega) (by omega)) ?_
              | refine S.conv Try.underlying49 Try.underlying2 rfl rfl ?_
            refine S.moveT rfl ?_
            first
              | refine S.convN Try.underlying49 Try.underlying2 rfl rfl (wrap_i64 (by omega) (by omega)) ?_
              | refine S.conv Try.underlying49 Try.underlying2 rfl rfl ?_
            refine S.call ent10 rfl (g_grow hS5010 (by exact hg1) (by exact hg2) (by exact hyf) (by exact hyf)) rfl ?_
            rintro _ w73 ⟨p73, q73, e73, rfl, hG73, hS73⟩
            clear hS5010
            have hw2 := wd_cases p73 q73
            have hp73 : fits p73 := by unfold fits; omega
            have hq73 : fits q73 := by unfold fits; omega
            refine S.moveT rfl ?_
            refine S.extract rfl rfl rfl ?_
            refine S.extract rfl rfl rfl ?_
            refine S.alloc hS73 ti23 rfl rfl ?_
            intro b11 w11 hS11; clear hS73
            refine S.storeB (i := 0) hS11 rfl ti23 rfl rfl rfl rfl rfl rfl rfl rfl ?_
            intro w2011 hS2011; clear hS11
            refine S.assignT rfl ?_
            refine WS.done ?_
            refine WR.seq ?_
            refine WR.regionQ mixed hS2011 (by kernel_rfl) rfl ?_
            refine Q.moveT rfl ?_
            refine Q.eql rfl rfl rfl ?_
            refine Q.moveT rfl ?_
            refine Q.splitD (d := 78) rfl (fun c78 => ?_) (fun c78 => ?_)
            ·
              skip
              refine Q.loadBA (i := 1) rfl Try.underlying23 rfl ti23 rfl rfl rfl rfl ?_
              refine Q.loadBA (i := 0) rfl Try.underlying23 rfl ti23 rfl rfl rfl rfl ?_
              refine Q.call ent18 rfl (fun w hQ => g_within hQ ) rfl ?_
              refine Q.isTD (d := 81) rfl (by omega) ?_
              refine Q.not rfl rfl ?_
              refine Q.moveT rfl ?_
              refine Q.loadBA (i := 0) rfl Try.underlying23 rfl ti23 rfl rfl rfl rfl ?_
              refine Q.call ent19 rfl (fun w hQ => g_width hQ (by exact hp73) (by exact hq73)) rfl ?_
              refine Q.loadBA (i := 1) rfl Try.underlying23 rfl ti23 rfl rfl rfl rfl ?_
              refine Q.call ent19 rfl (fun w hQ => g_width hQ (by exact hg1) (by exact hg2)) rfl ?_
              refine Q.moveT rfl ?_
              first
                | refine Q.convN Try.underlying49 Try.underlying40 rfl rfl (wrap_u64 (by omega) (by omega)) ?_
                | refine Q.conv Try.underlying49 Try.underlying40 rfl rfl ?_
              first
                | refine Q.mulU rfl rfl rfl (by omega) ?_
                | refine Q.mul rfl rfl rfl ?_
              first
                | refine Q.addU rfl rfl rfl (by omega) ?_
                | refine Q.add rfl rfl rfl ?_
              refine Q.neq rfl rfl rfl ?_
              refine Q.isFD (d := 92) rfl (by omega) ?_
              refine Q.pickF rfl rfl ?_
              refine Q.pickT rfl rfl ?_
              refine WQ.done ?_
              intro w5012 hS5012
              clear hS2011
              refine WR.condF rfl ?_
              refine WR.skip ?_
              refine WR.region rfl ?_
              refine S.moveT rfl ?_
              first
                | refine S.addN rfl rfl rfl (by omega) ?_
                | refine S.add rfl rfl rfl ?_
              refine S.assignT rfl ?_
              refine WS.done ?_
              exact ⟨_, (by omega), ⟨i + 1, _, _, rfl, (by exact ⟨by omega, all_take hall (getZ hu31) (by omega), by first | exact (by rw [EachP.succ (getZ hu31), decide_eq_true_iff]; exact ⟨fun h => ⟨hev.1 c37, h⟩, fun h => h.2⟩) | exact (by rw [EachP.succ (getZ hu31)]; exact ⟨fun h => (by cases h), fun h => (by rw [hev.2 h.1] at c37; cases c37)⟩), by first | exact (by rw [SomeP.succ (getZ hu31)]; exact ⟨fun _ => .inl (hsm.1 c43), fun _ => rfl⟩) | exact (by rw [SomeP.succ (getZ hu31), decide_eq_true_iff]; exact ⟨fun h => .inr h, fun h => h.resolve_left (fun h => by rw [hsm.2 h] at c43; cases c43)⟩)⟩), rfl, rfl, rfl, ⟨rfl, rfl, rfl, trivial⟩, hS5012.drop.drop⟩⟩
            ·
              skip
              refine Q.off rfl ?_
              refine Q.off rfl ?_
              refine Q.off rfl ?_
              refine Q.off rfl ?_
              refine Q.off rfl ?_
              refine Q.off rfl ?_
              refine Q.off rfl ?_
              refine Q.off rfl ?_
              refine Q.off rfl ?_
              refine Q.off rfl ?_
              refine Q.off rfl ?_
              refine Q.off rfl ?_
              refine Q.off rfl ?_
              refine Q.off rfl ?_
              refine Q.off rfl ?_
              refine Q.pickFC rfl rfl ?_
              refine WQ.done ?_
              intro w5013 hS5013
              clear hS2011
              refine WR.condF rfl ?_
              refine WR.skip ?_
              refine WR.region rfl ?_
              refine S.moveT rfl ?_
              first
                | refine S.addN rfl rfl rfl (by omega) ?_
                | refine S.add rfl rfl rfl ?_
              refine S.assignT rfl ?_
              refine WS.done ?_
              exact ⟨_, (by omega), ⟨i + 1, _, _, rfl, (by exact ⟨by omega, all_take hall (getZ hu31) (by omega), by first | exact (by rw [EachP.succ (getZ hu31), decide_eq_true_iff]; exact ⟨fun h => ⟨hev.1 c37, h⟩, fun h => h.2⟩) | exact (by rw [EachP.succ (getZ hu31)]; exact ⟨fun h => (by cases h), fun h => (by rw [hev.2 h.1] at c37; cases c37)⟩), by first | exact (by rw [SomeP.succ (getZ hu31)]; exact ⟨fun _ => .inl (hsm.1 c43), fun _ => rfl⟩) | exact (by rw [SomeP.succ (getZ hu31), decide_eq_true_iff]; exact ⟨fun h => .inr h, fun h => h.resolve_left (fun h => by rw [hsm.2 h] at c43; cases c43)⟩)⟩), rfl, rfl, rfl, ⟨rfl, rfl, rfl, trivial⟩, hS5013.drop.drop⟩⟩
          ·
            skip
            refine S.loadBA (i := 0) hS34 rfl Try.underlying23 rfl ti23 rfl rfl rfl rfl ?_
            refine S.moveT rfl ?_
            refine S.call ent17 rfl (g_has hS34 ) rfl ?_
            rintro _ w46 ⟨rfl, hS46⟩
            clear hS34
            refine S.pickF rfl rfl ?_
            refine S.assignT rfl ?_
            refine WS.done ?_
            refine WR.seq ?_
            refine WR.seq ?_
            refine WR.regionQ mixed hS46 (by kernel_rfl) rfl ?_
            refine Q.loadBA (i := 0) rfl Try.underlying23 rfl ti23 rfl rfl rfl rfl ?_
            refine Q.loadBA (i := 0) rfl Try.underlying23 rfl ti23 rfl rfl rfl rfl ?_
            refine Q.call ent15 rfl (fun w hQ => g_mid hQ (by exact hg1) (by exact hg2)) rfl ?_
            refine Q.call ent17 rfl (fun w hQ => g_has hQ ) rfl ?_
            refine Q.isTD (d := 51) rfl (by omega) ?_
            refine Q.not rfl rfl ?_
            refine Q.moveT rfl ?_
            refine Q.loadBA (i := 0) rfl Try.underlying23 rfl ti23 rfl rfl rfl rfl ?_
            refine Q.fieldB Try.underlying23 rfl ti2 rfl rfl rfl rfl ?_
            refine Q.loadB (i := 0) rfl Try.underlying2 rfl rfl rfl rfl ?_
            refine Q.call ent17 rfl (fun w hQ => g_has hQ ) rfl ?_
            refine Q.isTD (d := 57) rfl (by omega) ?_
            refine Q.not rfl rfl ?_
            refine Q.pickF rfl rfl ?_
            refine Q.moveT rfl ?_
            refine Q.loadBA (i := 0) rfl Try.underlying23 rfl ti23 rfl rfl rfl rfl ?_
            refine Q.fieldB Try.underlying23 rfl ti2 rfl rfl rfl rfl ?_
            refine Q.loadB (i := 0) rfl Try.underlying2 rfl rfl rfl rfl ?_
            refine Q.call ent17 rfl (fun w hQ => g_has hQ ) rfl ?_
            refine Q.isTD (d := 64) rfl (by omega) ?_
            refine Q.not rfl rfl ?_
            refine Q.pickF rfl rfl ?_
            refine WQ.done ?_
            intro w5014 hS5014
            clear hS46
            refine WR.condF rfl ?_
            refine WR.skip ?_
            refine WR.seq ?_
            refine WR.region rfl ?_
            refine S.loadBA (i := 0) hS5014 rfl Try.underlying23 rfl ti23 rfl rfl rfl rfl ?_
            refine S.moveT rfl ?_
            first
              | refine S.convN Try.underlying49 Try.underlying2 rfl rfl (wrap_i64 (by omega) (by omega)) ?_
              | refine S.conv Try.underlying49 Try.underlying2 rfl rfl ?_
            refine S.moveT rfl ?_
            first
              | refine S.convN Try.underlying49 Try.underlying2 rfl rfl (wrap_i64 (by omega) (by omega)) ?_
              | refine S.conv Try.underlying49 Try.underlying2 rfl rfl ?_
            refine S.call ent10 rfl (g_grow hS5014 (by exact hg1) (by exact hg2) (by exact hyf) (by exact hyf)) rfl ?_
            rintro _ w73 ⟨p73, q73, e73, rfl, hG73, hS73⟩
            clear hS5014
            have hw2 := wd_cases p73 q73
            have hp73 : fits p73 := by unfold fits; omega
            have hq73 : fits q73 := by unfold fits; omega
            refine S.moveT rfl ?_
            refine S.extract rfl rfl rfl ?_
            refine S.extract rfl rfl rfl ?_
            refine S.alloc hS73 ti23 rfl rfl ?_
            intro b11 w11 hS11; clear hS73
            refine S.storeB (i := 0) hS11 rfl ti23 rfl rfl rfl rfl rfl rfl rfl rfl ?_
            intro w2015 hS2015; clear hS11
            refine S.assignT rfl ?_
            refine WS.done ?_
            refine WR.seq ?_
            refine WR.regionQ mixed hS2015 (by kernel_rfl) rfl ?_
            refine Q.moveT rfl ?_
            refine Q.eql rfl rfl rfl ?_
            refine Q.moveT rfl ?_
            refine Q.splitD (d := 78) rfl (fun c78 => ?_) (fun c78 => ?_)
            ·
              skip
              refine Q.loadBA (i := 1) rfl Try.underlying23 rfl ti23 rfl rfl rfl rfl ?_
              refine Q.loadBA (i := 0) rfl Try.underlying23 rfl ti23 rfl rfl rfl rfl ?_
              refine Q.call ent18 rfl (fun w hQ => g_within hQ ) rfl ?_
              refine Q.isTD (d := 81) rfl (by omega) ?_
              refine Q.not rfl rfl ?_
              refine Q.moveT rfl ?_
              refine Q.loadBA (i := 0) rfl Try.underlying23 rfl ti23 rfl rfl rfl rfl ?_
              refine Q.call ent19 rfl (fun w hQ => g_width hQ (by exact hp73) (by exact hq73)) rfl ?_
              refine Q.loadBA (i := 1) rfl Try.underlying23 rfl ti23 rfl rfl rfl rfl ?_
              refine Q.call ent19 rfl (fun w hQ => g_width hQ (by exact hg1) (by exact hg2)) rfl ?_
              refine Q.moveT rfl ?_
              first
                | refine Q.convN Try.underlying49 Try.underlying40 rfl rfl (wrap_u64 (by omega) (by omega)) ?_
                | refine Q.conv Try.underlying49 Try.underlying40 rfl rfl ?_
              first
                | refine Q.mulU rfl rfl rfl (by omega) ?_
                | refine Q.mul rfl rfl rfl ?_
              first
                | refine Q.addU rfl rfl rfl (by omega) ?_
                | refine Q.add rfl rfl rfl ?_
              refine Q.neq rfl rfl rfl ?_
              refine Q.isFD (d := 92) rfl (by omega) ?_
              refine Q.pickF rfl rfl ?_
              refine Q.pickT rfl rfl ?_
              refine WQ.done ?_
              intro w5016 hS5016
              clear hS2015
              refine WR.condF rfl ?_
              refine WR.skip ?_
              refine WR.region rfl ?_
              refine S.moveT rfl ?_
              first
                | refine S.addN rfl rfl rfl (by omega) ?_
                | refine S.add rfl rfl rfl ?_
              refine S.assignT rfl ?_
              refine WS.done ?_
              exact ⟨_, (by omega), ⟨i + 1, _, _, rfl, (by exact ⟨by omega, all_take hall (getZ hu31) (by omega), by first | exact (by rw [EachP.succ (getZ hu31), decide_eq_true_iff]; exact ⟨fun h => ⟨hev.1 c37, h⟩, fun h => h.2⟩) | exact (by rw [EachP.succ (getZ hu31)]; exact ⟨fun h => (by cases h), fun h => (by rw [hev.2 h.1] at c37; cases c37)⟩), by first | exact (by rw [SomeP.succ (getZ hu31)]; exact ⟨fun _ => .inl (hsm.1 c43), fun _ => rfl⟩) | exact (by rw [SomeP.succ (getZ hu31), decide_eq_true_iff]; exact ⟨fun h => .inr h, fun h => h.resolve_left (fun h => by rw [hsm.2 h] at c43; cases c43)⟩)⟩), rfl, rfl, rfl, ⟨rfl, rfl, rfl, trivial⟩, hS5016.drop.drop⟩⟩
            ·
              skip
              refine Q.off rfl ?_
              refine Q.off rfl ?_
              refine Q.off rfl ?_
              refine Q.off rfl ?_
              refine Q.off rfl ?_
              refine Q.off rfl ?_
              refine Q.off rfl ?_
              refine Q.off rfl ?_
              refine Q.off rfl ?_
              refine Q.off rfl ?_
              refine Q.off rfl ?_
              refine Q.off rfl ?_
              refine Q.off rfl ?_
              refine Q.off rfl ?_
              refine Q.off rfl ?_
              refine Q.pickFC rfl rfl ?_
              refine WQ.done ?_
              intro w5017 hS5017
              clear hS2015
              refine WR.condF rfl ?_
              refine WR.skip ?_
              refine WR.region rfl ?_
              refine S.moveT rfl ?_
              first
                | refine S.addN rfl rfl rfl (by omega) ?_
                | refine S.add rfl rfl rfl ?_
              refine S.assignT rfl ?_
              refine WS.done ?_
              exact ⟨_, (by omega), ⟨i + 1, _, _, rfl, (by exact ⟨by omega, all_take hall (getZ hu31) (by omega), by first | exact (by rw [EachP.succ (getZ hu31), decide_eq_true_iff]; exact ⟨fun h => ⟨hev.1 c37, h⟩, fun h => h.2⟩) | exact (by rw [EachP.succ (getZ hu31)]; exact ⟨fun h => (by cases h), fun h => (by rw [hev.2 h.1] at c37; cases c37)⟩), by first | exact (by rw [SomeP.succ (getZ hu31)]; exact ⟨fun _ => .inl (hsm.1 c43), fun _ => rfl⟩) | exact (by rw [SomeP.succ (getZ hu31), decide_eq_true_iff]; exact ⟨fun h => .inr h, fun h => h.resolve_left (fun h => by rw [hsm.2 h] at c43; cases c43)⟩)⟩), rfl, rfl, rfl, ⟨rfl, rfl, rfl, trivial⟩, hS5017.drop.drop⟩⟩
    ·
      skip
      rw [List.take_of_length_le (by omega)] at hall hev hsm
      refine WR.exit ?_
      refine WR.seq ?_
      refine WR.region rfl ?_
      refine S.moveT rfl ?_
      refine S.call ent20 rfl (g_meet hS1001 (by exact h0) (by omega)) rfl ?_
      rintro _ w97 ⟨p97, q97, e97, rfl, hG97, hS97⟩
      clear hS1001
      refine S.moveT rfl ?_
      refine S.extract rfl rfl rfl ?_
      refine S.extract rfl rfl rfl ?_
      refine S.alloc hS97 ti23 rfl rfl ?_
      intro b13 w13 hS13; clear hS97
      refine S.storeB (i := 0) hS13 rfl ti23 rfl rfl rfl rfl rfl rfl rfl rfl ?_
      intro w2018 hS2018; clear hS13
      refine S.assignT rfl ?_
      refine WS.done ?_
      refine WR.seq ?_
      refine WR.region rfl ?_
      refine S.moveT rfl ?_
      refine S.call ent21 rfl (g_hull hS2018 (by exact h0) (by omega)) rfl ?_
      rintro _ w102 ⟨p102, q102, e102, rfl, hG102, hS102⟩
      clear hS2018
      have hmh : (e97 = 0 ∧ p97 ≤ x ∧ x ≤ q97) ↔ EachP x xs := meet_has hG97 hall hx
      have hhs := fun h => hull_some (x := x) hG102 hall h
      refine S.moveT rfl ?_
      refine S.extract rfl rfl rfl ?_
      refine S.extract rfl rfl rfl ?_
      refine S.alloc hS102 ti23 rfl rfl ?_
      intro b15 w15 hS15; clear hS102
      refine S.storeB (i := 0) hS15 rfl ti23 rfl rfl rfl rfl rfl rfl rfl rfl ?_
      intro w2019 hS2019; clear hS15
      refine S.assignT rfl ?_
      refine WS.done ?_
      refine WR.seq ?_
      refine WR.seq ?_
      refine WR.region rfl ?_
      refine S.moveT rfl ?_
      refine S.eql rfl rfl rfl ?_
      refine S.moveT rfl ?_
      refine S.splitD (d := 107) rfl (fun c107 => ?_) (fun c107 => ?_)
      ·
        skip
        refine S.loadBA (i := 1) hS2019 rfl Try.underlying23 rfl ti23 rfl rfl rfl rfl ?_
        refine S.moveT rfl ?_
        refine S.call ent17 rfl (g_has hS2019 ) rfl ?_
        rintro _ w110 ⟨rfl, hS110⟩
        clear hS2019
        refine S.pickT rfl rfl ?_
        refine S.moveT rfl ?_
        refine S.neqB Try.underlying4 rfl rfl rfl ?_
        refine S.isB (d := 113) (c := false) rfl (by first | exact beq_not (by rw [hev, ← hmh]; exact ⟨fun h => ⟨c107, h⟩, fun h => h.2⟩) | exact beq_not' (fun h => c107 (hmh.2 (hev.1 h)).1)) ?_
        refine S.moveT rfl ?_
        refine S.moveT rfl ?_
        refine S.moveT rfl ?_
        refine S.splitB (d := 116) rfl (fun c116 => ?_) (fun c116 => ?_)
        ·
          skip
          refine S.moveT rfl ?_
          refine S.eql rfl rfl rfl ?_
          refine S.isTD (d := 118) rfl (by exact (hhs (hsm.1 c116)).1) ?_
          refine S.moveT rfl ?_
          refine S.loadBA (i := 0) hS110 rfl Try.underlying23 rfl ti23 rfl rfl rfl rfl ?_
          refine S.moveT rfl ?_
          refine S.call ent17 rfl (g_has hS110 ) rfl ?_
          rintro _ w122 ⟨rfl, hS122⟩
          clear hS110
          refine S.isTD (d := 122) rfl (by exact (hhs (hsm.1 c116)).2) ?_
          refine S.pickT rfl rfl ?_
          refine S.not rfl rfl ?_
          refine S.pickT rfl rfl ?_
          refine S.pickF rfl rfl ?_
          refine WS.done ?_
          refine WR.condF rfl ?_
          refine WR.skip ?_
          refine WR.seq ?_
          refine WR.seq ?_
          refine WR.region rfl ?_
          refine S.assignC rfl ?_
          refine WS.done ?_
          refine WR.block ?_
          refine WR.loopE (fun rq mm rr wr => ∃ (i : Nat), mm = xs.length - i ∧ (i ≤ xs.length) ∧ rr 17 = .int .i64 (i : Int) ∧ Agr [0, 13, 14, 15] rr rq ∧ St wr R (blk b15 (.cells (#[.int .i64 p102, .int .i64 q102]) 23 (0, 0)) :: blk b13 (.cells (#[.int .i64 p97, .int .i64 q97]) 23 (0, 0)) :: L)) ⟨0, rfl, (by omega), rfl, ⟨rfl, rfl, rfl, rfl, trivial⟩, hS122⟩ ?_
          rintro mm rr w1002 ⟨i, hm1002, hi2, hr1002_17, hA1002, hS1002⟩
          obtain ⟨rr, rfl⟩ := agrBack hA1002
          clear hA1002
          obtain ⟨rr, rfl⟩ := back1 (r := rr) hr1002_17
          clear hr1002_17
          refine WR.seq ?_
          refine WR.seq ?_
          refine WR.region rfl ?_
          refine S.moveT rfl ?_
          refine S.moveT rfl ?_
          refine S.lenSl Try.underlying43 rfl rfl ?_
          refine S.lss rfl rfl rfl ?_
          refine WS.done ?_
          refine WR.condD rfl (fun c130 => ?_) (fun c130 => ?_)
          ·
            skip
            refine WR.skip ?_
            refine WR.seq ?_
            refine WR.block ?_
            refine WR.seq ?_
            refine WR.regionQ mixed hS1002 (by kernel_rfl) rfl ?_
            refine Q.moveT rfl ?_
            refine Q.moveT rfl ?_
            refine Q.indexRo h0 Try.underlying43 ti23 rfl rfl (by omega) rfl ?_
            intro ad135 u135 hu135 hl135 hc135
            refine Q.loadRoA hc135 hl135 Try.underlying23 rfl ti23 rfl rfl ?_
            refine Q.loadBA (i := 0) rfl Try.underlying23 rfl ti23 rfl rfl rfl rfl ?_
            refine Q.call ent18 rfl (fun w hQ => g_within hQ ) rfl ?_
            refine Q.isTD (d := 138) rfl (by have hq1 := hull_in hG102 hall (List.mem_of_getElem? hu135); have hq2 := hall _ (List.mem_of_getElem? hu135); omega) ?_
            refine Q.not rfl rfl ?_
            refine Q.moveT rfl ?_
            refine Q.moveT rfl ?_
            refine Q.eql rfl rfl rfl ?_
            refine Q.moveT rfl ?_
            refine Q.splitD (d := 143) rfl (fun c143 => ?_) (fun c143 => ?_)
            ·
              skip
              refine Q.loadBA (i := 1) rfl Try.underlying23 rfl ti23 rfl rfl rfl rfl ?_
              refine Q.moveT rfl ?_
              refine Q.moveT rfl ?_
              refine Q.indexRo h0 Try.underlying43 ti23 rfl rfl (by omega) rfl ?_
              intro ad147 u147 hu147 hl147 hc147
              refine Q.loadRoA hc147 hl147 Try.underlying23 rfl ti23 rfl rfl ?_
              refine Q.call ent18 rfl (fun w hQ => g_within hQ ) rfl ?_
              refine Q.isTD (d := 149) rfl (by have hq1 := meet_in hG97 c143 (List.mem_of_getElem? hu147); omega) ?_
              refine Q.not rfl rfl ?_
              refine Q.pickT rfl rfl ?_
              refine Q.pickF rfl rfl ?_
              refine WQ.done ?_
              intro w5020 hS5020
              clear hS1002
              refine WR.condF rfl ?_
              refine WR.skip ?_
              refine WR.region rfl ?_
              refine S.moveT rfl ?_
              first
                | refine S.addN rfl rfl rfl (by omega) ?_
                | refine S.add rfl rfl rfl ?_
              refine S.assignT rfl ?_
              refine WS.done ?_
              exact ⟨_, (by omega), ⟨i + 1, rfl, (by omega), rfl, ⟨rfl, rfl, rfl, rfl, trivial⟩, hS5020⟩⟩
            ·
              skip
              refine Q.off rfl ?_
              refine Q.off rfl ?_
              refine Q.off rfl ?_
              refine Q.off rfl ?_
              refine Q.off rfl ?_
              refine Q.off rfl ?_
              refine Q.off rfl ?_
              refine Q.pickFC rfl rfl ?_
              refine Q.pickF rfl rfl ?_
              refine WQ.done ?_
              intro w5021 hS5021
              clear hS1002
              refine WR.condF rfl ?_
              refine WR.skip ?_
              refine WR.region rfl ?_
              refine S.moveT rfl ?_
              first
                | refine S.addN rfl rfl rfl (by omega) ?_
                | refine S.add rfl rfl rfl ?_
              refine S.assignT rfl ?_
              refine WS.done ?_
              exact ⟨_, (by omega), ⟨i + 1, rfl, (by omega), rfl, ⟨rfl, rfl, rfl, rfl, trivial⟩, hS5021⟩⟩
          ·
            skip
            refine WR.exit ?_
            refine WR.seq ?_
            refine WR.region rfl ?_
            refine S.assignC rfl ?_
            refine WS.done ?_
            refine WR.ret (ret1 rfl rfl ?_)
            first | exact ⟨rfl, hS1002⟩ | exact ⟨rfl, hS1002.drop⟩ | exact ⟨rfl, hS1002.drop.drop⟩
        ·
          skip
          refine S.off rfl ?_
          refine S.off rfl ?_
          refine S.off rfl ?_
          refine S.off rfl ?_
          refine S.off rfl ?_
          refine S.off rfl ?_
          refine S.off rfl ?_
          refine S.off rfl ?_
          refine S.pickFC rfl rfl ?_
          refine S.pickF rfl rfl ?_
          refine WS.done ?_
          refine WR.condF rfl ?_
          refine WR.skip ?_
          refine WR.seq ?_
          refine WR.seq ?_
          refine WR.region rfl ?_
          refine S.assignC rfl ?_
          refine WS.done ?_
          refine WR.block ?_
          refine WR.loopE (fun rq mm rr wr => ∃ (i : Nat), mm = xs.length - i ∧ (i ≤ xs.length) ∧ rr 17 = .int .i64 (i : Int) ∧ Agr [0, 13, 14, 15] rr rq ∧ St wr R (blk b15 (.cells (#[.int .i64 p102, .int .i64 q102]) 23 (0, 0)) :: blk b13 (.cells (#[.int .i64 p97, .int .i64 q97]) 23 (0, 0)) :: L)) ⟨0, rfl, (by omega), rfl, ⟨rfl, rfl, rfl, rfl, trivial⟩, hS110⟩ ?_
          rintro mm rr w1002 ⟨i, hm1002, hi2, hr1002_17, hA1002, hS1002⟩
          obtain ⟨rr, rfl⟩ := agrBack hA1002
          clear hA1002
          obtain ⟨rr, rfl⟩ := back1 (r := rr) hr1002_17
          clear hr1002_17
          refine WR.seq ?_
          refine WR.seq ?_
          refine WR.region rfl ?_
          refine S.moveT rfl ?_
          refine S.moveT rfl ?_
          refine S.lenSl Try.underlying43 rfl rfl ?_
          refine S.lss rfl rfl rfl ?_
          refine WS.done ?_
          refine WR.condD rfl (fun c130 => ?_) (fun c130 => ?_)
          ·
            skip
            refine WR.skip ?_
            refine WR.seq ?_
            refine WR.block ?_
            refine WR.seq ?_
            refine WR.regionQ mixed hS1002 (by kernel_rfl) rfl ?_
            refine Q.moveT rfl ?_
            refine Q.moveT rfl ?_
            refine Q.indexRo h0 Try.underlying43 ti23 rfl rfl (by omega) rfl ?_
            intro ad135 u135 hu135 hl135 hc135
            refine Q.loadRoA hc135 hl135 Try.underlying23 rfl ti23 rfl rfl ?_
            refine Q.loadBA (i := 0) rfl Try.underlying23 rfl ti23 rfl rfl rfl rfl ?_
            refine Q.call ent18 rfl (fun w hQ => g_within hQ ) rfl ?_
            refine Q.isTD (d := 138) rfl (by have hq1 := hull_in hG102 hall (List.mem_of_getElem? hu135); have hq2 := hall _ (List.mem_of_getElem? hu135); omega) ?_
            refine Q.not rfl rfl ?_
            refine Q.moveT rfl ?_
            refine Q.moveT rfl ?_
            refine Q.eql rfl rfl rfl ?_
            refine Q.moveT rfl ?_
            refine Q.splitD (d := 143) rfl (fun c143 => ?_) (fun c143 => ?_)
            ·
              skip
              refine Q.loadBA (i := 1) rfl Try.underlying23 rfl ti23 rfl rfl rfl rfl ?_
              refine Q.moveT rfl ?_
              refine Q.moveT rfl ?_
              refine Q.indexRo h0 Try.underlying43 ti23 rfl rfl (by omega) rfl ?_
              intro ad147 u147 hu147 hl147 hc147
              refine Q.loadRoA hc147 hl147 Try.underlying23 rfl ti23 rfl rfl ?_
              refine Q.call ent18 rfl (fun w hQ => g_within hQ ) rfl ?_
              refine Q.isTD (d := 149) rfl (by have hq1 := meet_in hG97 c143 (List.mem_of_getElem? hu147); omega) ?_
              refine Q.not rfl rfl ?_
              refine Q.pickT rfl rfl ?_
              refine Q.pickF rfl rfl ?_
              refine WQ.done ?_
              intro w5022 hS5022
              clear hS1002
              refine WR.condF rfl ?_
              refine WR.skip ?_
              refine WR.region rfl ?_
              refine S.moveT rfl ?_
              first
                | refine S.addN rfl rfl rfl (by omega) ?_
                | refine S.add rfl rfl rfl ?_
              refine S.assignT rfl ?_
              refine WS.done ?_
              exact ⟨_, (by omega), ⟨i + 1, rfl, (by omega), rfl, ⟨rfl, rfl, rfl, rfl, trivial⟩, hS5022⟩⟩
            ·
              skip
              refine Q.off rfl ?_
              refine Q.off rfl ?_
              refine Q.off rfl ?_
              refine Q.off rfl ?_
              refine Q.off rfl ?_
              refine Q.off rfl ?_
              refine Q.off rfl ?_
              refine Q.pickFC rfl rfl ?_
              refine Q.pickF rfl rfl ?_
              refine WQ.done ?_
              intro w5023 hS5023
              clear hS1002
              refine WR.condF rfl ?_
              refine WR.skip ?_
              refine WR.region rfl ?_
              refine S.moveT rfl ?_
              first
                | refine S.addN rfl rfl rfl (by omega) ?_
                | refine S.add rfl rfl rfl ?_
              refine S.assignT rfl ?_
              refine WS.done ?_
              exact ⟨_, (by omega), ⟨i + 1, rfl, (by omega), rfl, ⟨rfl, rfl, rfl, rfl, trivial⟩, hS5023⟩⟩
          ·
            skip
            refine WR.exit ?_
            refine WR.seq ?_
            refine WR.region rfl ?_
            refine S.assignC rfl ?_
            refine WS.done ?_
            refine WR.ret (ret1 rfl rfl ?_)
            first | exact ⟨rfl, hS1002⟩ | exact ⟨rfl, hS1002.drop⟩ | exact ⟨rfl, hS1002.drop.drop⟩
      ·
        skip
        refine S.off rfl ?_
        refine S.off rfl ?_
        refine S.off rfl ?_
        refine S.pickFC rfl rfl ?_
        refine S.moveT rfl ?_
        refine S.neqB Try.underlying4 rfl rfl rfl ?_
        refine S.isB (d := 113) (c := false) rfl (by first | exact beq_not (by rw [hev, ← hmh]; exact ⟨fun h => ⟨c107, h⟩, fun h => h.2⟩) | exact beq_not' (fun h => c107 (hmh.2 (hev.1 h)).1)) ?_
        refine S.moveT rfl ?_
        refine S.moveT rfl ?_
        refine S.moveT rfl ?_
        refine S.splitB (d := 116) rfl (fun c116 => ?_) (fun c116 => ?_)
        ·
          skip
          refine S.moveT rfl ?_
          refine S.eql rfl rfl rfl ?_
          refine S.isTD (d := 118) rfl (by exact (hhs (hsm.1 c116)).1) ?_
          refine S.moveT rfl ?_
          refine S.loadBA (i := 0) hS2019 rfl Try.underlying23 rfl ti23 rfl rfl rfl rfl ?_
          refine S.moveT rfl ?_
          refine S.call ent17 rfl (g_has hS2019 ) rfl ?_
          rintro _ w122 ⟨rfl, hS122⟩
          clear hS2019
          refine S.isTD (d := 122) rfl (by exact (hhs (hsm.1 c116)).2) ?_
          refine S.pickT rfl rfl ?_
          refine S.not rfl rfl ?_
          refine S.pickT rfl rfl ?_
          refine S.pickF rfl rfl ?_
          refine WS.done ?_
          refine WR.condF rfl ?_
          refine WR.skip ?_
          refine WR.seq ?_
          refine WR.seq ?_
          refine WR.region rfl ?_
          refine S.assignC rfl ?_
          refine WS.done ?_
          refine WR.block ?_
          refine WR.loopE (fun rq mm rr wr => ∃ (i : Nat), mm = xs.length - i ∧ (i ≤ xs.length) ∧ rr 17 = .int .i64 (i : Int) ∧ Agr [0, 13, 14, 15] rr rq ∧ St wr R (blk b15 (.cells (#[.int .i64 p102, .int .i64 q102]) 23 (0, 0)) :: blk b13 (.cells (#[.int .i64 p97, .int .i64 q97]) 23 (0, 0)) :: L)) ⟨0, rfl, (by omega), rfl, ⟨rfl, rfl, rfl, rfl, trivial⟩, hS122⟩ ?_
          rintro mm rr w1002 ⟨i, hm1002, hi2, hr1002_17, hA1002, hS1002⟩
          obtain ⟨rr, rfl⟩ := agrBack hA1002
          clear hA1002
          obtain ⟨rr, rfl⟩ := back1 (r := rr) hr1002_17
          clear hr1002_17
          refine WR.seq ?_
          refine WR.seq ?_
          refine WR.region rfl ?_
          refine S.moveT rfl ?_
          refine S.moveT rfl ?_
          refine S.lenSl Try.underlying43 rfl rfl ?_
          refine S.lss rfl rfl rfl ?_
          refine WS.done ?_
          refine WR.condD rfl (fun c130 => ?_) (fun c130 => ?_)
          ·
            skip
            refine WR.skip ?_
            refine WR.seq ?_
            refine WR.block ?_
            refine WR.seq ?_
            refine WR.regionQ mixed hS1002 (by kernel_rfl) rfl ?_
            refine Q.moveT rfl ?_
            refine Q.moveT rfl ?_
            refine Q.indexRo h0 Try.underlying43 ti23 rfl rfl (by omega) rfl ?_
            intro ad135 u135 hu135 hl135 hc135
            refine Q.loadRoA hc135 hl135 Try.underlying23 rfl ti23 rfl rfl ?_
            refine Q.loadBA (i := 0) rfl Try.underlying23 rfl ti23 rfl rfl rfl rfl ?_
            refine Q.call ent18 rfl (fun w hQ => g_within hQ ) rfl ?_
            refine Q.isTD (d := 138) rfl (by have hq1 := hull_in hG102 hall (List.mem_of_getElem? hu135); have hq2 := hall _ (List.mem_of_getElem? hu135); omega) ?_
            refine Q.not rfl rfl ?_
            refine Q.moveT rfl ?_
            refine Q.moveT rfl ?_
            refine Q.eql rfl rfl rfl ?_
            refine Q.moveT rfl ?_
            refine Q.splitD (d := 143) rfl (fun c143 => ?_) (fun c143 => ?_)
            ·
              skip
              refine Q.loadBA (i := 1) rfl Try.underlying23 rfl ti23 rfl rfl rfl rfl ?_
              refine Q.moveT rfl ?_
              refine Q.moveT rfl ?_
              refine Q.indexRo h0 Try.underlying43 ti23 rfl rfl (by omega) rfl ?_
              intro ad147 u147 hu147 hl147 hc147
              refine Q.loadRoA hc147 hl147 Try.underlying23 rfl ti23 rfl rfl ?_
              refine Q.call ent18 rfl (fun w hQ => g_within hQ ) rfl ?_
              refine Q.isTD (d := 149) rfl (by have hq1 := meet_in hG97 c143 (List.mem_of_getElem? hu147); omega) ?_
              refine Q.not rfl rfl ?_
              refine Q.pickT rfl rfl ?_
              refine Q.pickF rfl rfl ?_
              refine WQ.done ?_
              intro w5024 hS5024
              clear hS1002
              refine WR.condF rfl ?_
              refine WR.skip ?_
              refine WR.region rfl ?_
              refine S.moveT rfl ?_
              first
                | refine S.addN rfl rfl rfl (by omega) ?_
                | refine S.add rfl rfl rfl ?_
              refine S.assignT rfl ?_
              refine WS.done ?_
              exact ⟨_, (by omega), ⟨i + 1, rfl, (by omega), rfl, ⟨rfl, rfl, rfl, rfl, trivial⟩, hS5024⟩⟩
            ·
              skip
              refine Q.off rfl ?_
              refine Q.off rfl ?_
              refine Q.off rfl ?_
              refine Q.off rfl ?_
              refine Q.off rfl ?_
              refine Q.off rfl ?_
              refine Q.off rfl ?_
              refine Q.pickFC rfl rfl ?_
              refine Q.pickF rfl rfl ?_
              refine WQ.done ?_
              intro w5025 hS5025
              clear hS1002
              refine WR.condF rfl ?_
              refine WR.skip ?_
              refine WR.region rfl ?_
              refine S.moveT rfl ?_
              first
                | refine S.addN rfl rfl rfl (by omega) ?_
                | refine S.add rfl rfl rfl ?_
              refine S.assignT rfl ?_
              refine WS.done ?_
              exact ⟨_, (by omega), ⟨i + 1, rfl, (by omega), rfl, ⟨rfl, rfl, rfl, rfl, trivial⟩, hS5025⟩⟩
          ·
            skip
            refine WR.exit ?_
            refine WR.seq ?_
            refine WR.region rfl ?_
            refine S.assignC rfl ?_
            refine WS.done ?_
            refine WR.ret (ret1 rfl rfl ?_)
            first | exact ⟨rfl, hS1002⟩ | exact ⟨rfl, hS1002.drop⟩ | exact ⟨rfl, hS1002.drop.drop⟩
        ·
          skip
          refine S.off rfl ?_
          refine S.off rfl ?_
          refine S.off rfl ?_
          refine S.off rfl ?_
          refine S.off rfl ?_
          refine S.off rfl ?_
          refine S.off rfl ?_
          refine S.off rfl ?_
          refine S.pickFC rfl rfl ?_
          refine S.pickF rfl rfl ?_
          refine WS.done ?_
          refine WR.condF rfl ?_
          refine WR.skip ?_
          refine WR.seq ?_
          refine WR.seq ?_
          refine WR.region rfl ?_
          refine S.assignC rfl ?_
          refine WS.done ?_
          refine WR.block ?_
          refine WR.loopE (fun rq mm rr wr => ∃ (i : Nat), mm = xs.length - i ∧ (i ≤ xs.length) ∧ rr 17 = .int .i64 (i : Int) ∧ Agr [0, 13, 14, 15] rr rq ∧ St wr R (blk b15 (.cells (#[.int .i64 p102, .int .i64 q102]) 23 (0, 0)) :: blk b13 (.cells (#[.int .i64 p97, .int .i64 q97]) 23 (0, 0)) :: L)) ⟨0, rfl, (by omega), rfl, ⟨rfl, rfl, rfl, rfl, trivial⟩, hS2019⟩ ?_
          rintro mm rr w1002 ⟨i, hm1002, hi2, hr1002_17, hA1002, hS1002⟩
          obtain ⟨rr, rfl⟩ := agrBack hA1002
          clear hA1002
          obtain ⟨rr, rfl⟩ := back1 (r := rr) hr1002_17
          clear hr1002_17
          refine WR.seq ?_
          refine WR.seq ?_
          refine WR.region rfl ?_
          refine S.moveT rfl ?_
          refine S.moveT rfl ?_
          refine S.lenSl Try.underlying43 rfl rfl ?_
          refine S.lss rfl rfl rfl ?_
          refine WS.done ?_
          refine WR.condD rfl (fun c130 => ?_) (fun c130 => ?_)
          ·
            skip
            refine WR.skip ?_
            refine WR.seq ?_
            refine WR.block ?_
            refine WR.seq ?_
            refine WR.regionQ mixed hS1002 (by kernel_rfl) rfl ?_
            refine Q.moveT rfl ?_
            refine Q.moveT rfl ?_
            refine Q.indexRo h0 Try.underlying43 ti23 rfl rfl (by omega) rfl ?_
            intro ad135 u135 hu135 hl135 hc135
            refine Q.loadRoA hc135 hl135 Try.underlying23 rfl ti23 rfl rfl ?_
            refine Q.loadBA (i := 0) rfl Try.underlying23 rfl ti23 rfl rfl rfl rfl ?_
            refine Q.call ent18 rfl (fun w hQ => g_within hQ ) rfl ?_
            refine Q.isTD (d := 138) rfl (by have hq1 := hull_in hG102 hall (List.mem_of_getElem? hu135); have hq2 := hall _ (List.mem_of_getElem? hu135); omega) ?_
            refine Q.not rfl rfl ?_
            refine Q.moveT rfl ?_
            refine Q.moveT rfl ?_
            refine Q.eql rfl rfl rfl ?_
            refine Q.moveT rfl ?_
            refine Q.splitD (d := 143) rfl (fun c143 => ?_) (fun c143 => ?_)
            ·
              skip
              refine Q.loadBA (i := 1) rfl Try.underlying23 rfl ti23 rfl rfl rfl rfl ?_
              refine Q.moveT rfl ?_
              refine Q.moveT rfl ?_
              refine Q.indexRo h0 Try.underlying43 ti23 rfl rfl (by omega) rfl ?_
              intro ad147 u147 hu147 hl147 hc147
              refine Q.loadRoA hc147 hl147 Try.underlying23 rfl ti23 rfl rfl ?_
              refine Q.call ent18 rfl (fun w hQ => g_within hQ ) rfl ?_
              refine Q.isTD (d := 149) rfl (by have hq1 := meet_in hG97 c143 (List.mem_of_getElem? hu147); omega) ?_
              refine Q.not rfl rfl ?_
              refine Q.pickT rfl rfl ?_
              refine Q.pickF rfl rfl ?_
              refine WQ.done ?_
              intro w5026 hS5026
              clear hS1002
              refine WR.condF rfl ?_
              refine WR.skip ?_
              refine WR.region rfl ?_
              refine S.moveT rfl ?_
              first
                | refine S.addN rfl rfl rfl (by omega) ?_
                | refine S.add rfl rfl rfl ?_
              refine S.assignT rfl ?_
              refine WS.done ?_
              exact ⟨_, (by omega), ⟨i + 1, rfl, (by omega), rfl, ⟨rfl, rfl, rfl, rfl, trivial⟩, hS5026⟩⟩
            ·
              skip
              refine Q.off rfl ?_
              refine Q.off rfl ?_
              refine Q.off rfl ?_
              refine Q.off rfl ?_
              refine Q.off rfl ?_
              refine Q.off rfl ?_
              refine Q.off rfl ?_
              refine Q.pickFC rfl rfl ?_
              refine Q.pickF rfl rfl ?_
              refine WQ.done ?_
              intro w5027 hS5027
              clear hS1002
              refine WR.condF rfl ?_
              refine WR.skip ?_
              refine WR.region rfl ?_
              refine S.moveT rfl ?_
              first
                | refine S.addN rfl rfl rfl (by omega) ?_
                | refine S.add rfl rfl rfl ?_
              refine S.assignT rfl ?_
              refine WS.done ?_
              exact ⟨_, (by omega), ⟨i + 1, rfl, (by omega), rfl, ⟨rfl, rfl, rfl, rfl, trivial⟩, hS5027⟩⟩
          ·
            skip
            refine WR.exit ?_
            refine WR.seq ?_
            refine WR.region rfl ?_
            refine S.assignC rfl ?_
            refine WS.done ?_
            refine WR.ret (ret1 rfl rfl ?_)
            first | exact ⟨rfl, hS1002⟩ | exact ⟨rfl, hS1002.drop⟩ | exact ⟨rfl, hS1002.drop.drop⟩


end Go.Proofs.Ytogciedegglogaa.B

import Derived.Test.YtogciedegglogaaWalkA
namespace Go.Proofs.Ytogciedegglogaa.B
open Go.Proofs Go.RowKit
set_option linter.unusedVariables false
set_option linter.unusedSimpArgs false
theorem meet_comm (s a b : Int × Int) : meetF (meetF s a) b = meetF (meetF s b) a := by simp only [meetF, Prod.mk.injEq]; omega
theorem hull_comm (s a b : Int × Int) : hullF (hullF s a) b = hullF (hullF s b) a := by simp only [hullF, Prod.mk.injEq]; omega
theorem FoldP.perm {F : Int × Int → Int × Int → Int × Int} (hF : ∀ s a b, F (F s a) b = F (F s b) a) {s : Int × Int} {xs ys : List (Int × Int)} {p q e : Int} (h : xs.Perm ys) (hp : FoldP F s xs p q e) : FoldP F s ys p q e := by
  have e1 : xs.foldl F s = ys.foldl F s := h.foldl_eq' (fun x _ y _ z => hF z x y) s
  have e2 : (∀ x ∈ xs, x.1 ≤ x.2) ↔ (∀ x ∈ ys, x.1 ≤ x.2) := ⟨fun k x hx => k x (h.mem_iff.2 hx), fun k x hx => k x (h.mem_iff.1 hx)⟩
  unfold FoldP at hp ⊢
  rwa [← e1, ← e2]
theorem meet_step {a b c d f g p q e p1 q1 e1 p2 q2 e2 : Int} (h3 : FoldP meetF (-9223372036854775808, 9223372036854775807) [(a, b), (c, d), (f, g)] p q e) (he : e = 0)
    (h1 : FoldP meetF (-9223372036854775808, 9223372036854775807) [(a, b), (c, d)] p1 q1 e1) (h2 : FoldP meetF (-9223372036854775808, 9223372036854775807) [(p1, q1), (f, g)] p2 q2 e2) : e1 = 0 ∧ e2 = 0 ∧ p2 = p ∧ q2 = q := by
  have g3 := fold3 h3
  have g1 := fold2 h1
  have g2 := fold2 h2
  unfold Three at g3 g1 g2
  simp only [meetF] at g3 g1 g2
  rcases g3 with g3 | g3 | g3
  · omega
  · omega
  · obtain ⟨⟨r1, r2, r3⟩, r4, r5, r6, r7⟩ := g3
    obtain ⟨k1, k2, k3⟩ : e1 = 0 ∧ p1 = max (max (-9223372036854775808) a) c ∧ q1 = min (min 9223372036854775807 b) d := by
      rcases g1 with g1 | g1 | g1 <;> omega
    rcases g2 with g2 | g2 | g2 <;> omega
theorem meet_hull {a b c d f g p q e p1 q1 e1 : Int} (h3 : FoldP meetF (-9223372036854775808, 9223372036854775807) [(a, b), (c, d), (f, g)] p q e) (he : e = 0)
    (h1 : FoldP hullF (9223372036854775807, -9223372036854775808) [(a, b), (c, d), (f, g)] p1 q1 e1) : p ≤ q ∧ p1 ≤ p ∧ q ≤ q1 := by
  have hall : ∀ x ∈ [(a, b), (c, d), (f, g)], x.1 ≤ x.2 := by
    rcases h3 with h | h | h
    · omega
    · exact h.1
    · exact h.1
  have h4 := meet_in h3 he (g := (a, b)) (by simp)
  have h5 := hull_in h1 hall (g := (a, b)) (by simp)
  simp only at h4 h5
  omega
set_option maxRecDepth 100000 in
set_option maxHeartbeats 4000000 in
theorem law_GapBack {w : World} {R : Kn} {L : List HP} (hS : St w R (L)) {a b c d f g x : Int} (ha : fits a) (hb : fits b) (hc : fits c) (hd : fits d) (hf : fits f) (hg : fits g) (hx : fits x) :
    Fn Try.prog 6 #[.agg #[.int .i64 a, .int .i64 b], .agg #[.int .i64 c, .int .i64 d], .agg #[.int .i64 f, .int .i64 g], .int .i64 x] w (fun v w' => v = .bool true ∧ St w' R L) := by
  have ha' := id ha
  have hb' := id hb
  have hc' := id hc
  have hd' := id hd
  have hf' := id hf
  have hg' := id hg
  have hx' := id hx
  unfold fits at ha' hb' hc' hd' hf' hg' hx'
  have hw := wd_cases a b
  refine Fn.intro (n := 142) Try.func6 rfl rfl rfl ?_
  refine WR.seq ?_
  refine WR.region rfl ?_
  refine S.box hS rfl rfl rfl ?_
  intro b4 w4 hS4; clear hS
  refine S.box hS4 rfl rfl rfl ?_
  intro b5 w5 hS5; clear hS4
  refine S.box hS5 rfl rfl rfl ?_
  intro b6 w6 hS6; clear hS5
  refine S.assignC rfl ?_
  refine WS.done ?_
  refine WR.seq ?_
  refine WR.seq ?_
  refine WR.region rfl ?_
  refine S.call ent7 rfl (l3_alive hS6 ) rfl ?_
  rintro _ w25 ⟨rfl, hS25⟩
  clear hS6
  refine S.not rfl rfl ?_
  refine WS.done ?_
  refine WR.condF rfl ?_
  refine WR.skip ?_
  refine WR.seq ?_
  refine WR.region rfl ?_
  refine S.loadBA (i := 2) hS25 rfl Try.underlying23 rfl ti23 rfl rfl rfl rfl ?_
  refine S.moveT rfl ?_
  refine S.call ent9 rfl (g_shift hS25 (by exact ha) (by exact hb) (by exact hx)) rfl ?_
  rintro _ w30 ⟨p30, q30, e30, rfl, hG30, hS30⟩
  clear hS25
  have hp30 : fits p30 := by unfold fits; omega
  have hq30 : fits q30 := by unfold fits; omega
  have hw2 := wd_cases p30 q30
  refine S.moveT rfl ?_
  refine S.extract rfl rfl rfl ?_
  refine S.extract rfl rfl rfl ?_
  refine S.alloc hS30 ti23 rfl rfl ?_
  intro b9 w9 hS9; clear hS30
  refine S.storeB (i := 0) hS9 rfl ti23 rfl rfl rfl rfl rfl rfl rfl rfl ?_
  intro w2001 hS2001; clear hS9
  refine S.assignT rfl ?_
  refine WS.done ?_
  refine WR.seq ?_
  refine WR.seq ?_
  refine WR.region rfl ?_
  refine S.moveT rfl ?_
  refine S.eql rfl rfl rfl ?_
  refine S.moveT rfl ?_
  refine S.splitD (d := 35) rfl (fun c35 => ?_) (fun c35 => ?_)
  ·
    skip
    refine S.moveT rfl ?_
    refine S.gtr rfl rfl rfl ?_
    refine S.pickT rfl rfl ?_
    refine WS.done ?_
    refine WR.condD rfl (fun c38 => ?_) (fun c38 => ?_)
    ·
      skip
      refine WR.seq ?_
      refine WR.region rfl ?_
      refine S.loadBA (i := 0) hS2001 rfl Try.underlying23 rfl ti23 rfl rfl rfl rfl ?_
      refine S.moveT rfl ?_
      first
        | refine S.negN rfl rfl (by omega) ?_
        | refine S.neg rfl rfl ?_
      refine S.call ent9 rfl (g_shift hS2001 (by exact hp30) (by exact hq30) (by unfold fits; omega)) rfl ?_
      rintro _ w43 ⟨p43, q43, e43, rfl, hG43, hS43⟩
      clear hS2001
      refine S.moveT rfl ?_
      refine S.extract rfl rfl rfl ?_
      refine S.extract rfl rfl rfl ?_
      refine S.alloc hS43 ti23 rfl rfl ?_
      intro b11 w11 hS11; clear hS43
      refine S.storeB (i := 0) hS11 rfl ti23 rfl rfl rfl rfl rfl rfl rfl rfl ?_
      intro w2002 hS2002; clear hS11
      refine S.assignT rfl ?_
      refine WS.done ?_
      refine WR.seq ?_
      refine WR.regionQ mixed hS2002 (by kernel_rfl) rfl ?_
      refine Q.moveT rfl ?_
      refine Q.neq rfl rfl rfl ?_
      refine Q.isFD (d := 47) rfl (by omega) ?_
      refine Q.moveT rfl ?_
      refine Q.loadBA (i := 0) rfl Try.underlying23 rfl ti23 rfl rfl rfl rfl ?_
      refine Q.loadBA (i := 4) rfl Try.underlying23 rfl ti23 rfl rfl rfl rfl ?_
      refine Q.neqS rfl rfl (by kernel_rfl) (Eq1.struct Try.underlying23 (by kernel_rfl) (EqF.cons (by decide) (Part1.one Try.underlying2 rfl rfl) (Part1.one Try.underlying2 rfl rfl) (Eq1.int Try.underlying2) (EqF.one (by decide) (Part1.one Try.underlying2 rfl rfl) (Part1.one Try.underlying2 rfl rfl) (Eq1.int Try.underlying2)))) rfl ?_
      refine Q.isFD (d := 51) rfl (by omega) ?_
      refine Q.pickF rfl rfl ?_
      refine Q.moveT rfl ?_
      refine Q.loadBA (i := 1) rfl Try.underlying23 rfl ti23 rfl rfl rfl rfl ?_
      refine Q.call ent19 rfl (fun w hQ => g_width hQ (by exact hp30) (by exact hq30)) rfl ?_
      refine Q.loadBA (i := 4) rfl Try.underlying23 rfl ti23 rfl rfl rfl rfl ?_
      refine Q.call ent19 rfl (fun w hQ => g_width hQ (by exact ha) (by exact hb)) rfl ?_
      refine Q.neq rfl rfl rfl ?_
      refine Q.isFD (d := 58) rfl (by omega) ?_
      refine Q.pickF rfl rfl ?_
      refine WQ.done ?_
      intro w5003 hS5003
      clear hS2002
      refine WR.condF rfl ?_
      refine WR.skip ?_
      refine WR.seq ?_
      refine WR.region rfl ?_
      refine S.loadBA (i := 4) hS5003 rfl Try.underlying23 rfl ti23 rfl rfl rfl rfl ?_
      refine S.loadBA (i := 3) hS5003 rfl Try.underlying23 rfl ti23 rfl rfl rfl rfl ?_
      refine S.loadBA (i := 2) hS5003 rfl Try.underlying23 rfl ti23 rfl rfl rfl rfl ?_
      first
        | refine S.buildRow (vs := [.agg _, .agg _, .agg _]) hS5003 Try.underlying43 ti23 rfl rfl rfl rfl rfl rfl rfl ?_
        | refine S.buildRow hS5003 Try.underlying43 ti23 rfl rfl rfl rfl rfl rfl rfl ?_
      intro b64 w64 hS64; clear hS5003
      obtain ⟨R64, hR64, hro64, hSf64⟩ := hS64.keepRow (enc := gpE) (n := 2) [(a, b), (c, d), (f, g)] rfl (fun _ _ => rfl)
      refine S.call ent20 rfl (g_meet hSf64 (by exact hro64) (by simp)) rfl ?_
      rintro _ w65 ⟨p65, q65, e65, rfl, hG65, hS65⟩
      clear hSf64
      refine S.moveT rfl ?_
      refine S.extract rfl rfl rfl ?_
      refine S.extract rfl rfl rfl ?_
      refine S.alloc hS65 ti23 rfl rfl ?_
      intro b13 w13 hS13; clear hS65
      refine S.storeB (i := 0) hS13 rfl ti23 rfl rfl rfl rfl rfl rfl rfl rfl ?_
      intro w2004 hS2004; clear hS13
      refine S.assignT rfl ?_
      refine WS.done ?_
      refine WR.seq ?_
      refine WR.region rfl ?_
      refine S.loadBA (i := 3) hS2004 rfl Try.underlying23 rfl ti23 rfl rfl rfl rfl ?_
      refine S.loadBA (i := 4) hS2004 rfl Try.underlying23 rfl ti23 rfl rfl rfl rfl ?_
      refine S.loadBA (i := 5) hS2004 rfl Try.underlying23 rfl ti23 rfl rfl rfl rfl ?_
      first
        | refine S.buildRow (vs := [.agg _, .agg _, .agg _]) hS2004 Try.underlying43 ti23 rfl rfl rfl rfl rfl rfl rfl ?_
        | refine S.buildRow hS2004 Try.underlying43 ti23 rfl rfl rfl rfl rfl rfl rfl ?_
      intro b72 w72 hS72; clear hS2004
      obtain ⟨R72, hR72, hro72, hSf72⟩ := hS72.keepRow (enc := gpE) (n := 2) [(f, g), (c, d), (a, b)] rfl (fun _ _ => rfl)
      replace hro64 := hro64.mono hR72
      refine S.call ent20 rfl (g_meet hSf72 (by exact hro72) (by simp)) rfl ?_
      rintro _ w73 ⟨p73, q73, e73, rfl, hG73, hS73⟩
      clear hSf72
      have hs73 := hG65.same (FoldP.perm meet_comm (List.reverse_perm [(a, b), (c, d), (f, g)]) hG73)
      refine S.moveT rfl ?_
      refine S.extract rfl rfl rfl ?_
      refine S.extract rfl rfl rfl ?_
      refine S.alloc hS73 ti23 rfl rfl ?_
      intro b15 w15 hS15; clear hS73
      refine S.storeB (i := 0) hS15 rfl ti23 rfl rfl rfl rfl rfl rfl rfl rfl ?_
      intro w2005 hS2005; clear hS15
      refine S.assignT rfl ?_
      refine WS.done ?_
      refine WR.seq ?_
      refine WR.region rfl ?_
      refine S.loadBA (i := 6) hS2005 rfl Try.underlying23 rfl ti23 rfl rfl rfl rfl ?_
      refine S.loadBA (i := 5) hS2005 rfl Try.underlying23 rfl ti23 rfl rfl rfl rfl ?_
      refine S.loadBA (i := 4) hS2005 rfl Try.underlying23 rfl ti23 rfl rfl rfl rfl ?_
      first
        | refine S.buildRow (vs := [.agg _, .agg _, .agg _]) hS2005 Try.underlying43 ti23 rfl rfl rfl rfl rfl rfl rfl ?_
        | refine S.buildRow hS2005 Try.underlying43 ti23 rfl rfl rfl rfl rfl rfl rfl ?_
      intro b80 w80 hS80; clear hS2005
      obtain ⟨R80, hR80, hro80, hSf80⟩ := hS80.keepRow (enc := gpE) (n := 2) [(a, b), (c, d), (f, g)] rfl (fun _ _ => rfl)
      replace hro64 := hro64.mono hR80
      replace hro72 := hro72.mono hR80
      refine S.call ent21 rfl (g_hull hSf80 (by exact hro80) (by simp)) rfl ?_
      rintro _ w81 ⟨p81, q81, e81, rfl, hG81, hS81⟩
      clear hSf80
      refine S.moveT rfl ?_
      refine S.extract rfl rfl rfl ?_
      refine S.extract rfl rfl rfl ?_
      refine S.alloc hS81 ti23 rfl rfl ?_
      intro b17 w17 hS17; clear hS81
      refine S.storeB (i := 0) hS17 rfl ti23 rfl rfl rfl rfl rfl rfl rfl rfl ?_
      intro w2006 hS2006; clear hS17
      refine S.assignT rfl ?_
      refine WS.done ?_
      refine WR.seq ?_
      refine WR.region rfl ?_
      refine S.loadBA (i := 6) hS2006 rfl Try.underlying23 rfl ti23 rfl rfl rfl rfl ?_
      refine S.loadBA (i := 5) hS2006 rfl Try.underlying23 rfl ti23 rfl rfl rfl rfl ?_
      refine S.loadBA (i := 7) hS2006 rfl Try.underlying23 rfl ti23 rfl rfl rfl rfl ?_
      first
        | refine S.buildRow (vs := [.agg _, .agg _, .agg _]) hS2006 Try.underlying43 ti23 rfl rfl rfl rfl rfl rfl rfl ?_
        | refine S.buildRow hS2006 Try.underlying43 ti23 rfl rfl rfl rfl rfl rfl rfl ?_
      intro b88 w88 hS88; clear hS2006
      obtain ⟨R88, hR88, hro88, hSf88⟩ := hS88.keepRow (enc := gpE) (n := 2) [(c, d), (f, g), (a, b)] rfl (fun _ _ => rfl)
      replace hro64 := hro64.mono hR88
      replace hro72 := hro72.mono hR88
      replace hro80 := hro80.mono hR88
      refine S.call ent21 rfl (g_hull hSf88 (by exact hro88) (by simp)) rfl ?_
      rintro _ w89 ⟨p89, q89, e89, rfl, hG89, hS89⟩
      clear hSf88
      have hs89 := hG81.same (FoldP.perm hull_comm (List.perm_append_comm (l₁ := [(c, d), (f, g)]) (l₂ := [(a, b)])) hG89)
      refine S.moveT rfl ?_
      refine S.extract rfl rfl rfl ?_
      refine S.extract rfl rfl rfl ?_
      refine S.alloc hS89 ti23 rfl rfl ?_
      intro b19 w19 hS19; clear hS89
      refine S.storeB (i := 0) hS19 rfl ti23 rfl rfl rfl rfl rfl rfl rfl rfl ?_
      intro w2007 hS2007; clear hS19
      refine S.assignT rfl ?_
      refine WS.done ?_
      refine WR.seq ?_
      refine WR.seq ?_
      refine WR.region rfl ?_
      refine S.loadBA (i := 3) hS2007 rfl Try.underlying23 rfl ti23 rfl rfl rfl rfl ?_
      refine S.loadBA (i := 2) hS2007 rfl Try.underlying23 rfl ti23 rfl rfl rfl rfl ?_
      refine S.neqS rfl rfl (by kernel_rfl) (Eq1.struct Try.underlying23 (by kernel_rfl) (EqF.cons (by decide) (Part1.one Try.underlying2 rfl rfl) (Part1.one Try.underlying2 rfl rfl) (Eq1.int Try.underlying2) (EqF.one (by decide) (Part1.one Try.underlying2 rfl rfl) (Part1.one Try.underlying2 rfl rfl) (Eq1.int Try.underlying2)))) rfl ?_
      refine S.isFD (d := 94) rfl (by omega) ?_
      refine S.moveT rfl ?_
      refine S.moveT rfl ?_
      refine S.moveT rfl ?_
      refine S.neq rfl rfl rfl ?_
      refine S.isFD (d := 98) rfl (by omega) ?_
      refine S.pickF rfl rfl ?_
      refine S.moveT rfl ?_
      refine S.loadBA (i := 1) hS2007 rfl Try.underlying23 rfl ti23 rfl rfl rfl rfl ?_
      refine S.loadBA (i := 0) hS2007 rfl Try.underlying23 rfl ti23 rfl rfl rfl rfl ?_
      refine S.neqS rfl rfl (by kernel_rfl) (Eq1.struct Try.underlying23 (by kernel_rfl) (EqF.cons (by decide) (Part1.one Try.underlying2 rfl rfl) (Part1.one Try.underlying2 rfl rfl) (Eq1.int Try.underlying2) (EqF.one (by decide) (Part1.one Try.underlying2 rfl rfl) (Part1.one Try.underlying2 rfl rfl) (Eq1.int Try.underlying2)))) rfl ?_
      refine S.isFD (d := 103) rfl (by omega) ?_
      refine S.pickF rfl rfl ?_
      refine S.moveT rfl ?_
      refine S.moveT rfl ?_
      refine S.moveT rfl ?_
      refine S.neq rfl rfl rfl ?_
      refine S.isFD (d := 108) rfl (by omega) ?_
      refine S.pickF rfl rfl ?_
      refine WS.done ?_
      refine WR.condF rfl ?_
      refine WR.skip ?_
      refine WR.seq ?_
      refine WR.seq ?_
      refine WR.region rfl ?_
      refine S.moveT rfl ?_
      refine S.neq rfl rfl rfl ?_
      refine WS.done ?_
      refine WR.condD rfl (fun c111 => ?_) (fun c111 => ?_)
      ·
        skip
        refine WR.seq ?_
        refine WR.region rfl ?_
        refine S.assignC rfl ?_
        refine WS.done ?_
        refine WR.ret (ret1 rfl rfl ?_)
        first | exact ⟨rfl, hS2007.drop.drop.drop.drop.drop.drop.drop.drop.drop.weak (hR64.trans (hR72.trans (hR80.trans hR88)))⟩ | exact ⟨rfl, hS2007.drop.drop.drop.drop.drop.drop.drop.drop.drop.weak (hR64.trans (hR72.trans (hR80.trans (hR88.trans (hR115.trans hR122)))))⟩
      ·
        skip
        refine WR.skip ?_
        refine WR.seq ?_
        refine WR.region rfl ?_
        refine S.loadBA (i := 8) hS2007 rfl Try.underlying23 rfl ti23 rfl rfl rfl rfl ?_
        refine S.loadBA (i := 7) hS2007 rfl Try.underlying23 rfl ti23 rfl rfl rfl rfl ?_
        first
          | refine S.buildRow (vs := [.agg _, .agg _]) hS2007 Try.underlying43 ti23 rfl rfl rfl rfl rfl rfl rfl ?_
          | refine S.buildRow hS2007 Try.underlying43 ti23 rfl rfl rfl rfl rfl rfl rfl ?_
        intro b115 w115 hS115; clear hS2007
        obtain ⟨R115, hR115, hro115, hSf115⟩ := hS115.keepRow (enc := gpE) (n := 2) [(a, b), (c, d)] rfl (fun _ _ => rfl)
        replace hro64 := hro64.mono hR115
        replace hro72 := hro72.mono hR115
        replace hro80 := hro80.mono hR115
        replace hro88 := hro88.mono hR115
        refine S.call ent20 rfl (g_meet hSf115 (by exact hro115) (by simp)) rfl ?_
        rintro _ w116 ⟨p116, q116, e116, rfl, hG116, hS116⟩
        clear hSf115
        refine S.moveT rfl ?_
        refine S.extract rfl rfl rfl ?_
        refine S.extract rfl rfl rfl ?_
        refine S.alloc hS116 ti23 rfl rfl ?_
        intro b21 w21 hS21; clear hS116
        refine S.storeB (i := 0) hS21 rfl ti23 rfl rfl rfl rfl rfl rfl rfl rfl ?_
        intro w2008 hS2008; clear hS21
        refine S.assignT rfl ?_
        refine WS.done ?_
        refine WR.seq ?_
        refine WR.region rfl ?_
        refine S.loadBA (i := 0) hS2008 rfl Try.underlying23 rfl ti23 rfl rfl rfl rfl ?_
        refine S.loadBA (i := 7) hS2008 rfl Try.underlying23 rfl ti23 rfl rfl rfl rfl ?_
        first
          | refine S.buildRow (vs := [.agg _, .agg _]) hS2008 Try.underlying43 ti23 rfl rfl rfl rfl rfl rfl rfl ?_
          | refine S.buildRow hS2008 Try.underlying43 ti23 rfl rfl rfl rfl rfl rfl rfl ?_
        intro b122 w122 hS122; clear hS2008
        obtain ⟨R122, hR122, hro122, hSf122⟩ := hS122.keepRow (enc := gpE) (n := 2) [(p116, q116), (f, g)] rfl (fun _ _ => rfl)
        replace hro64 := hro64.mono hR122
        replace hro72 := hro72.mono hR122
        replace hro80 := hro80.mono hR122
        replace hro88 := hro88.mono hR122
        replace hro115 := hro115.mono hR122
        refine S.call ent20 rfl (g_meet hSf122 (by exact hro122) (by simp)) rfl ?_
        rintro _ w123 ⟨p123, q123, e123, rfl, hG123, hS123⟩
        clear hSf122
        have hst := meet_step hG65 (by omega) hG116 hG123
        have hwi := meet_hull hG65 (by omega) hG81
        refine S.moveT rfl ?_
        refine S.extract rfl rfl rfl ?_
        refine S.extract rfl rfl rfl ?_
        refine S.alloc hS123 ti23 rfl rfl ?_
        intro b23 w23 hS23; clear hS123
        refine S.storeB (i := 0) hS23 rfl ti23 rfl rfl rfl rfl rfl rfl rfl rfl ?_
        intro w2009 hS2009; clear hS23
        refine S.assignT rfl ?_
        refine WS.done ?_
        refine WR.seq ?_
        refine WR.region rfl ?_
        refine S.moveT rfl ?_
        refine S.eql rfl rfl rfl ?_
        refine S.isTD (d := 127) rfl (by omega) ?_
        refine S.moveT rfl ?_
        refine S.moveT rfl ?_
        refine S.eql rfl rfl rfl ?_
        refine S.isTD (d := 130) rfl (by omega) ?_
        refine S.pickT rfl rfl ?_
        refine S.moveT rfl ?_
        refine S.loadBA (i := 0) hS2009 rfl Try.underlying23 rfl ti23 rfl rfl rfl rfl ?_
        refine S.loadBA (i := 5) hS2009 rfl Try.underlying23 rfl ti23 rfl rfl rfl rfl ?_
        refine S.eqlS rfl rfl (by kernel_rfl) (Eq1.struct Try.underlying23 (by kernel_rfl) (EqF.cons (by decide) (Part1.one Try.underlying2 rfl rfl) (Part1.one Try.underlying2 rfl rfl) (Eq1.int Try.underlying2) (EqF.one (by decide) (Part1.one Try.underlying2 rfl rfl) (Part1.one Try.underlying2 rfl rfl) (Eq1.int Try.underlying2)))) rfl ?_
        refine S.isTD (d := 135) rfl (by omega) ?_
        refine S.pickT rfl rfl ?_
        refine S.moveT rfl ?_
        refine S.loadBA (i := 5) hS2009 rfl Try.underlying23 rfl ti23 rfl rfl rfl rfl ?_
        refine S.loadBA (i := 3) hS2009 rfl Try.underlying23 rfl ti23 rfl rfl rfl rfl ?_
        refine S.call ent18 rfl (g_within hS2009 ) rfl ?_
        rintro _ w140 ⟨rfl, hS140⟩
        clear hS2009
        refine S.isTD (d := 140) rfl (by omega) ?_
        refine S.pickT rfl rfl ?_
        refine S.assignT rfl ?_
        refine WS.done ?_
        refine WR.ret (ret1 rfl rfl ?_)
        first | exact ⟨rfl, hS140.drop.drop.drop.drop.drop.drop.drop.drop.drop.drop.drop.weak (hR64.trans (hR72.trans (hR80.trans hR88)))⟩ | exact ⟨rfl, hS140.drop.drop.drop.drop.drop.drop.drop.drop.drop.drop.drop.weak (hR64.trans (hR72.trans (hR80.trans (hR88.trans (hR115.trans hR122)))))⟩
    ·
      skip
      refine WR.skip ?_
      refine WR.seq ?_
      refine WR.region rfl ?_
      refine S.loadBA (i := 3) hS2001 rfl Try.underlying23 rfl ti23 rfl rfl rfl rfl ?_
      refine S.loadBA (i := 2) hS2001 rfl Try.underlying23 rfl ti23 rfl rfl rfl rfl ?_
      refine S.loadBA (i := 1) hS2001 rfl Try.underlying23 rfl ti23 rfl rfl rfl rfl ?_
      first
        | refine S.buildRow (vs := [.agg _, .agg _, .agg _]) hS2001 Try.underlying43 ti23 rfl rfl rfl rfl rfl rfl rfl ?_
        | refine S.buildRow hS2001 Try.underlying43 ti23 rfl rfl rfl rfl rfl rfl rfl ?_
      intro b64 w64 hS64; clear hS2001
      obtain ⟨R64, hR64, hro64, hSf64⟩ := hS64.keepRow (enc := gpE) (n := 2) [(a, b), (c, d), (f, g)] rfl (fun _ _ => rfl)
      refine S.call ent20 rfl (g_meet hSf64 (by exact hro64) (by simp)) rfl ?_
      rintro _ w65 ⟨p65, q65, e65, rfl, hG65, hS65⟩
      clear hSf64
      refine S.moveT rfl ?_
      refine S.extract rfl rfl rfl ?_
      refine S.extract rfl rfl rfl ?_
      refine S.alloc hS65 ti23 rfl rfl ?_
      intro b13 w13 hS13; clear hS65
      refine S.storeB (i := 0) hS13 rfl ti23 rfl rfl rfl rfl rfl rfl rfl rfl ?_
      intro w2010 hS2010; clear hS13
      refine S.assignT rfl ?_
      refine WS.done ?_
      refine WR.seq ?_
      refine WR.region rfl ?_
      refine S.loadBA (i := 2) hS2010 rfl Try.underlying23 rfl ti23 rfl rfl rfl rfl ?_
      refine S.loadBA (i := 3) hS2010 rfl Try.underlying23 rfl ti23 rfl rfl rfl rfl ?_
      refine S.loadBA (i := 4) hS2010 rfl Try.underlying23 rfl ti23 rfl rfl rfl rfl ?_
      first
        | refine S.buildRow (vs := [.agg _, .agg _, .agg _]) hS2010 Try.underlying43 ti23 rfl rfl rfl rfl rfl rfl rfl ?_
        | refine S.buildRow hS2010 Try.underlying43 ti23 rfl rfl rfl rfl rfl rfl rfl ?_
      intro b72 w72 hS72; clear hS2010
      obtain ⟨R72, hR72, hro72, hSf72⟩ := hS72.keepRow (enc := gpE) (n := 2) [(f, g), (c, d), (a, b)] rfl (fun _ _ => rfl)
      replace hro64 := hro64.mono hR72
      refine S.call ent20 rfl (g_meet hSf72 (by exact hro72) (by simp)) rfl ?_
      rintro _ w73 ⟨p73, q73, e73, rfl, hG73, hS73⟩
      clear hSf72
      have hs73 := hG65.same (FoldP.perm meet_comm (List.reverse_perm [(a, b), (c, d), (f, g)]) hG73)
      refine S.moveT rfl ?_
      refine S.extract rfl rfl rfl ?_
      refine S.extract rfl rfl rfl ?_
      refine S.alloc hS73 ti23 rfl rfl ?_
      intro b15 w15 hS15; clear hS73
      refine S.storeB (i := 0) hS15 rfl ti23 rfl rfl rfl rfl rfl rfl rfl rfl ?_
      intro w2011 hS2011; clear hS15
      refine S.assignT rfl ?_
      refine WS.done ?_
      refine WR.seq ?_
      refine WR.region rfl ?_
      refine S.loadBA (i := 5) hS2011 rfl Try.underlying23 rfl ti23 rfl rfl rfl rfl ?_
      refine S.loadBA (i := 4) hS2011 rfl Try.underlying23 rfl ti23 rfl rfl rfl rfl ?_
      refine S.loadBA (i := 3) hS2011 rfl Try.underlying23 rfl ti23 rfl rfl rfl rfl ?_
      first
        | refine S.buildRow (vs := [.agg _, .agg _, .agg _]) hS2011 Try.underlying43 ti23 rfl rfl rfl rfl rfl rfl rfl ?_
        | refine S.buildRow hS2011 Try.underlying43 ti23 rfl rfl rfl rfl rfl rfl rfl ?_
      intro b80 w80 hS80; clear hS2011
      obtain ⟨R80, hR80, hro80, hSf80⟩ := hS80.keepRow (enc := gpE) (n := 2) [(a, b), (c, d), (f, g)] rfl (fun _ _ => rfl)
      replace hro64 := hro64.mono hR80
      replace hro72 := hro72.mono hR80
      refine S.call ent21 rfl (g_hull hSf80 (by exact hro80) (by simp)) rfl ?_
      rintro _ w81 ⟨p81, q81, e81, rfl, hG81, hS81⟩
      clear hSf80
      refine S.moveT rfl ?_
      refine S.extract rfl rfl rfl ?_
      refine S.extract rfl rfl rfl ?_
      refine S.alloc hS81 ti23 rfl rfl ?_
      intro b17 w17 hS17; clear hS81
      refine S.storeB (i := 0) hS17 rfl ti23 rfl rfl rfl rfl rfl rfl rfl rfl ?_
      intro w2012 hS2012; clear hS17
      refine S.assignT rfl ?_
      refine WS.done ?_
      refine WR.seq ?_
      refine WR.region rfl ?_
      refine S.loadBA (i := 5) hS2012 rfl Try.underlying23 rfl ti23 rfl rfl rfl rfl ?_
      refine S.loadBA (i := 4) hS2012 rfl Try.underlying23 rfl ti23 rfl rfl rfl rfl ?_
      refine S.loadBA (i := 6) hS2012 rfl Try.underlying23 rfl ti23 rfl rfl rfl rfl ?_
      first
        | refine S.buildRow (vs := [.agg _, .agg _, .agg _]) hS2012 Try.underlying43 ti23 rfl rfl rfl rfl rfl rfl rfl ?_
        | refine S.buildRow hS2012 Try.underlying43 ti23 rfl rfl rfl rfl rfl rfl rfl ?_
      intro b88 w88 hS88; clear hS2012
      obtain ⟨R88, hR88, hro88, hSf88⟩ := hS88.keepRow (enc := gpE) (n := 2) [(c, d), (f, g), (a, b)] rfl (fun _ _ => rfl)
      replace hro64 := hro64.mono hR88
      replace hro72 := hro72.mono hR88
      replace hro80 := hro80.mono hR88
      refine S.call ent21 rfl (g_hull hSf88 (by exact hro88) (by simp)) rfl ?_
      rintro _ w89 ⟨p89, q89, e89, rfl, hG89, hS89⟩
      clear hSf88
      have hs89 := hG81.same (FoldP.perm hull_comm (List.perm_append_comm (l₁ := [(c, d), (f, g)]) (l₂ := [(a, b)])) hG89)
      refine S.moveT rfl ?_
      refine S.extract rfl rfl rfl ?_
      refine S.extract rfl rfl rfl ?_
      refine S.alloc hS89 ti23 rfl rfl ?_
      intro b19 w19 hS19; clear hS89
      refine S.storeB (i := 0) hS19 rfl ti23 rfl rfl rfl rfl rfl rfl rfl rfl ?_
      intro w2013 hS2013; clear hS19
      refine S.assignT rfl ?_
      refine WS.done ?_
      refine WR.seq ?_
      refine WR.seq ?_
      refine WR.region rfl ?_
      refine S.loadBA (i := 3) hS2013 rfl Try.underlying23 rfl ti23 rfl rfl rfl rfl ?_
      refine S.loadBA (i := 2) hS2013 rfl Try.underlying23 rfl ti23 rfl rfl rfl rfl ?_
      refine S.neqS rfl rfl (by kernel_rfl) (Eq1.struct Try.underlying23 (by kernel_rfl) (EqF.cons (by decide) (Part1.one Try.underlying2 rfl rfl) (Part1.one Try.underlying2 rfl rfl) (Eq1.int Try.underlying2) (EqF.one (by decide) (Part1.one Try.underlying2 rfl rfl) (Part1.one Try.underlying2 rfl rfl) (Eq1.int Try.underlying2)))) rfl ?_
      refine S.isFD (d := 94) rfl (by omega) ?_
      refine S.moveT rfl ?_
      refine S.moveT rfl ?_
      refine S.moveT rfl ?_
      refine S.neq rfl rfl rfl ?_
      refine S.isFD (d := 98) rfl (by omega) ?_
      refine S.pickF rfl rfl ?_
      refine S.moveT rfl ?_
      refine S.loadBA (i := 1) hS2013 rfl Try.underlying23 rfl ti23 rfl rfl rfl rfl ?_
      refine S.loadBA (i := 0) hS2013 rfl Try.underlying23 rfl ti23 rfl rfl rfl rfl ?_
      refine S.neqS rfl rfl (by kernel_rfl) (Eq1.struct Try.underlying23 (by kernel_rfl) (EqF.cons (by decide) (Part1.one Try.underlying2 rfl rfl) (Part1.one Try.underlying2 rfl rfl) (Eq1.int Try.underlying2) (EqF.one (by decide) (Part1.one Try.underlying2 rfl rfl) (Part1.one Try.underlying2 rfl rfl) (Eq1.int Try.underlying2)))) rfl ?_
      refine S.isFD (d := 103) rfl (by omega) ?_
      refine S.pickF rfl rfl ?_
      refine S.moveT rfl ?_
      refine S.moveT rfl ?_
      refine S.moveT rfl ?_
      refine S.neq rfl rfl rfl ?_
      refine S.isFD (d := 108) rfl (by omega) ?_
      refine S.pickF rfl rfl ?_
      refine WS.done ?_
      refine WR.condF rfl ?_
      refine WR.skip ?_
      refine WR.seq ?_
      refine WR.seq ?_
      refine WR.region rfl ?_
      refine S.moveT rfl ?_
      refine S.neq rfl rfl rfl ?_
      refine WS.done ?_
      refine WR.condD rfl (fun c111 => ?_) (fun c111 => ?_)
      ·
        skip
        refine WR.seq ?_
        refine WR.region rfl ?_
        refine S.assignC rfl ?_
        refine WS.done ?_
        refine WR.ret (ret1 rfl rfl ?_)
        first | exact ⟨rfl, hS2013.drop.drop.drop.drop.drop.drop.drop.drop.weak (hR64.trans (hR72.trans (hR80.trans hR88)))⟩ | exact ⟨rfl, hS2013.drop.drop.drop.drop.drop.drop.drop.drop.weak (hR64.trans (hR72.trans (hR80.trans (hR88.trans (hR115.trans hR122)))))⟩
      ·
        skip
        refine WR.skip ?_
        refine WR.seq ?_
        refine WR.region rfl ?_
        refine S.loadBA (i := 7) hS2013 rfl Try.underlying23 rfl ti23 rfl rfl rfl rfl ?_
        refine S.loadBA (i := 6) hS2013 rfl Try.underlying23 rfl ti23 rfl rfl rfl rfl ?_
        first
          | refine S.buildRow (vs := [.agg _, .agg _]) hS2013 Try.underlying43 ti23 rfl rfl rfl rfl rfl rfl rfl ?_
          | refine S.buildRow hS2013 Try.underlying43 ti23 rfl rfl rfl rfl rfl rfl rfl ?_
        intro b115 w115 hS115; clear hS2013
        obtain ⟨R115, hR115, hro115, hSf115⟩ := hS115.keepRow (enc := gpE) (n := 2) [(a, b), (c, d)] rfl (fun _ _ => rfl)
        replace hro64 := hro64.mono hR115
        replace hro72 := hro72.mono hR115
        replace hro80 := hro80.mono hR115
        replace hro88 := hro88.mono hR115
        refine S.call ent20 rfl (g_meet hSf115 (by exact hro115) (by simp)) rfl ?_
        rintro _ w116 ⟨p116, q116, e116, rfl, hG116, hS116⟩
        clear hSf115
        refine S.moveT rfl ?_
        refine S.extract rfl rfl rfl ?_
        refine S.extract rfl rfl rfl ?_
        refine S.alloc hS116 ti23 rfl rfl ?_
        intro b21 w21 hS21; clear hS116
        refine S.storeB (i := 0) hS21 rfl ti23 rfl rfl rfl rfl rfl rfl rfl rfl ?_
        intro w2014 hS2014; clear hS21
        refine S.assignT rfl ?_
        refine WS.done ?_
        refine WR.seq ?_
        refine WR.region rfl ?_
        refine S.loadBA (i := 0) hS2014 rfl Try.underlying23 rfl ti23 rfl rfl rfl rfl ?_
        refine S.loadBA (i := 6) hS2014 rfl Try.underlying23 rfl ti23 rfl rfl rfl rfl ?_
        first
          | refine S.buildRow (vs := [.agg _, .agg _]) hS2014 Try.underlying43 ti23 rfl rfl rfl rfl rfl rfl rfl ?_
          | refine S.buildRow hS2014 Try.underlying43 ti23 rfl rfl rfl rfl rfl rfl rfl ?_
        intro b122 w122 hS122; clear hS2014
        obtain ⟨R122, hR122, hro122, hSf122⟩ := hS122.keepRow (enc := gpE) (n := 2) [(p116, q116), (f, g)] rfl (fun _ _ => rfl)
        replace hro64 := hro64.mono hR122
        replace hro72 := hro72.mono hR122
        replace hro80 := hro80.mono hR122
        replace hro88 := hro88.mono hR122
        replace hro115 := hro115.mono hR122
        refine S.call ent20 rfl (g_meet hSf122 (by exact hro122) (by simp)) rfl ?_
        rintro _ w123 ⟨p123, q123, e123, rfl, hG123, hS123⟩
        clear hSf122
        have hst := meet_step hG65 (by omega) hG116 hG123
        have hwi := meet_hull hG65 (by omega) hG81
        refine S.moveT rfl ?_
        refine S.extract rfl rfl rfl ?_
        refine S.extract rfl rfl rfl ?_
        refine S.alloc hS123 ti23 rfl rfl ?_
        intro b23 w23 hS23; clear hS123
        refine S.storeB (i := 0) hS23 rfl ti23 rfl rfl rfl rfl rfl rfl rfl rfl ?_
        intro w2015 hS2015; clear hS23
        refine S.assignT rfl ?_
        refine WS.done ?_
        refine WR.seq ?_
        refine WR.region rfl ?_
        refine S.moveT rfl ?_
        refine S.eql rfl rfl rfl ?_
        refine S.isTD (d := 127) rfl (by omega) ?_
        refine S.moveT rfl ?_
        refine S.moveT rfl ?_
        refine S.eql rfl rfl rfl ?_
        refine S.isTD (d := 130) rfl (by omega) ?_
        refine S.pickT rfl rfl ?_
        refine S.moveT rfl ?_
        refine S.loadBA (i := 0) hS2015 rfl Try.underlying23 rfl ti23 rfl rfl rfl rfl ?_
        refine S.loadBA (i := 5) hS2015 rfl Try.underlying23 rfl ti23 rfl rfl rfl rfl ?_
        refine S.eqlS rfl rfl (by kernel_rfl) (Eq1.struct Try.underlying23 (by kernel_rfl) (EqF.cons (by decide) (Part1.one Try.underlying2 rfl rfl) (Part1.one Try.underlying2 rfl rfl) (Eq1.int Try.underlying2) (EqF.one (by decide) (Part1.one Try.underlying2 rfl rfl) (Part1.one Try.underlying2 rfl rfl) (Eq1.int Try.underlying2)))) rfl ?_
        refine S.isTD (d := 135) rfl (by omega) ?_
        refine S.pickT rfl rfl ?_
        refine S.moveT rfl ?_
        refine S.loadBA (i := 5) hS2015 rfl Try.underlying23 rfl ti23 rfl rfl rfl rfl ?_
        refine S.loadBA (i := 3) hS2015 rfl Try.underlying23 rfl ti23 rfl rfl rfl rfl ?_
        refine S.call ent18 rfl (g_within hS2015 ) rfl ?_
        rintro _ w140 ⟨rfl, hS140⟩
        clear hS2015
        refine S.isTD (d := 140) rfl (by omega) ?_
        refine S.pickT rfl rfl ?_
        refine S.assignT rfl ?_
        refine WS.done ?_
        refine WR.ret (ret1 rfl rfl ?_)
        first | exact ⟨rfl, hS140.drop.drop.drop.drop.drop.drop.drop.drop.drop.drop.weak (hR64.trans (hR72.trans (hR80.trans hR88)))⟩ | exact ⟨rfl, hS140.drop.drop.drop.drop.drop.drop.drop.drop.drop.drop.weak (hR64.trans (hR72.trans (hR80.trans (hR88.trans (hR115.trans hR122)))))⟩
  ·
    skip
    refine S.off rfl ?_
    refine S.off rfl ?_
    refine S.pickFC rfl rfl ?_
    refine WS.done ?_
    refine WR.condF rfl ?_
    refine WR.skip ?_
    refine WR.seq ?_
    refine WR.region rfl ?_
    refine S.loadBA (i := 3) hS2001 rfl Try.underlying23 rfl ti23 rfl rfl rfl rfl ?_
    refine S.loadBA (i := 2) hS2001 rfl Try.underlying23 rfl ti23 rfl rfl rfl rfl ?_
    refine S.loadBA (i := 1) hS2001 rfl Try.underlying23 rfl ti23 rfl rfl rfl rfl ?_
    first
      | refine S.buildRow (vs := [.agg _, .agg _, .agg _]) hS2001 Try.underlying43 ti23 rfl rfl rfl rfl rfl rfl rfl ?_
      | refine S.buildRow hS2001 Try.underlying43 ti23 rfl rfl rfl rfl rfl rfl rfl ?_
    intro b64 w64 hS64; clear hS2001
    obtain ⟨R64, hR64, hro64, hSf64⟩ := hS64.keepRow (enc := gpE) (n := 2) [(a, b), (c, d), (f, g)] rfl (fun _ _ => rfl)
    refine S.call ent20 rfl (g_meet hSf64 (by exact hro64) (by simp)) rfl ?_
    rintro _ w65 ⟨p65, q65, e65, rfl, hG65, hS65⟩
    clear hSf64
    refine S.moveT rfl ?_
    refine S.extract rfl rfl rfl ?_
    refine S.extract rfl rfl rfl ?_
    refine S.alloc hS65 ti23 rfl rfl ?_
    intro b13 w13 hS13; clear hS65
    refine S.storeB (i := 0) hS13 rfl ti23 rfl rfl rfl rfl rfl rfl rfl rfl ?_
    intro w2016 hS2016; clear hS13
    refine S.assignT rfl ?_
    refine WS.done ?_
    refine WR.seq ?_
    refine WR.region rfl ?_
    refine S.loadBA (i := 2) hS2016 rfl Try.underlying23 rfl ti23 rfl rfl rfl rfl ?_
    refine S.loadBA (i := 3) hS2016 rfl Try.underlying23 rfl ti23 rfl rfl rfl rfl ?_
    refine S.loadBA (i := 4) hS2016 rfl Try.underlying23 rfl ti23 rfl rfl rfl rfl ?_
    first
      | refine S.buildRow (vs := [.agg _, .agg _, .agg _]) hS2016 Try.underlying43 ti23 rfl rfl rfl rfl rfl rfl rfl ?_
      | refine S.buildRow hS2016 Try.underlying43 ti23 rfl rfl rfl rfl rfl rfl rfl ?_
    intro b72 w72 hS72; clear hS2016
    obtain ⟨R72, hR72, hro72, hSf72⟩ := hS72.keepRow (enc := gpE) (n := 2) [(f, g), (c, d), (a, b)] rfl (fun _ _ => rfl)
    replace hro64 := hro64.mono hR72
    refine S.call ent20 rfl (g_meet hSf72 (by exact hro72) (by simp)) rfl ?_
    rintro _ w73 ⟨p73, q73, e73, rfl, hG73, hS73⟩
    clear hSf72
    have hs73 := hG65.same (FoldP.perm meet_comm (List.reverse_perm [(a, b), (c, d), (f, g)]) hG73)
    refine S.moveT rfl ?_
    refine S.extract rfl rfl rfl ?_
    refine S.extract rfl rfl rfl ?_
    refine S.alloc hS73 ti23 rfl rfl ?_
    intro b15 w15 hS15; clear hS73
    refine S.storeB (i := 0) hS15 rfl ti23 rfl rfl rfl rfl rfl rfl rfl rfl ?_
    intro w2017 hS2017; clear hS15
    refine S.assignT rfl ?_
    refine WS.done ?_
    refine WR.seq ?_
    refine WR.region rfl ?_
    refine S.loadBA (i := 5) hS2017 rfl Try.underlying23 rfl ti23 rfl rfl rfl rfl ?_
    refine S.loadBA (i := 4) hS2017 rfl Try.underlying23 rfl ti23 rfl rfl rfl rfl ?_
    refine S.loadBA (i := 3) hS2017 rfl Try.underlying23 rfl ti23 rfl rfl rfl rfl ?_
    first
      | refine S.buildRow (vs := [.agg _, .agg _, .agg _]) hS2017 Try.underlying43 ti23 rfl rfl rfl rfl rfl rfl rfl ?_
      | refine S.buildRow hS2017 Try.underlying43 ti23 rfl rfl rfl rfl rfl rfl rfl ?_
    intro b80 w80 hS80; clear hS2017
    obtain ⟨R80, hR80, hro80, hSf80⟩ := hS80.keepRow (enc := gpE) (n := 2) [(a, b), (c, d), (f, g)] rfl (fun _ _ => rfl)
    replace hro64 := hro64.mono hR80
    replace hro72 := hro72.mono hR80
    refine S.call ent21 rfl (g_hull hSf80 (by exact hro80) (by simp)) rfl ?_
    rintro _ w81 ⟨p81, q81, e81, rfl, hG81, hS81⟩
    clear hSf80
    refine S.moveT rfl ?_
    refine S.extract rfl rfl rfl ?_
    refine S.extract rfl rfl rfl ?_
    refine S.alloc hS81 ti23 rfl rfl ?_
    intro b17 w17 hS17; clear hS81
    refine S.storeB (i := 0) hS17 rfl ti23 rfl rfl rfl rfl rfl rfl rfl rfl ?_
    intro w2018 hS2018; clear hS17
    refine S.assignT rfl ?_
    refine WS.done ?_
    refine WR.seq ?_
    refine WR.region rfl ?_
    refine S.loadBA (i := 5) hS2018 rfl Try.underlying23 rfl ti23 rfl rfl rfl rfl ?_
    refine S.loadBA (i := 4) hS2018 rfl Try.underlying23 rfl ti23 rfl rfl rfl rfl ?_
    refine S.loadBA (i := 6) hS2018 rfl Try.underlying23 rfl ti23 rfl rfl rfl rfl ?_
    first
      | refine S.buildRow (vs := [.agg _, .agg _, .agg _]) hS2018 Try.underlying43 ti23 rfl rfl rfl rfl rfl rfl rfl ?_
      | refine S.buildRow hS2018 Try.underlying43 ti23 rfl rfl rfl rfl rfl rfl rfl ?_
    intro b88 w88 hS88; clear hS2018
    obtain ⟨R88, hR88, hro88, hSf88⟩ := hS88.keepRow (enc := gpE) (n := 2) [(c, d), (f, g), (a, b)] rfl (fun _ _ => rfl)
    replace hro64 := hro64.mono hR88
    replace hro72 := hro72.mono hR88
    replace hro80 := hro80.mono hR88
    refine S.call ent21 rfl (g_hull hSf88 (by exact hro88) (by simp)) rfl ?_
    rintro _ w89 ⟨p89, q89, e89, rfl, hG89, hS89⟩
    clear hSf88
    have hs89 := hG81.same (FoldP.perm hull_comm (List.perm_append_comm (l₁ := [(c, d), (f, g)]) (l₂ := [(a, b)])) hG89)
    refine S.moveT rfl ?_
    refine S.extract rfl rfl rfl ?_
    refine S.extract rfl rfl rfl ?_
    refine S.alloc hS89 ti23 rfl rfl ?_
    intro b19 w19 hS19; clear hS89
    refine S.storeB (i := 0) hS19 rfl ti23 rfl rfl rfl rfl rfl rfl rfl rfl ?_
    intro w2019 hS2019; clear hS19
    refine S.assignT rfl ?_
    refine WS.done ?_
    refine WR.seq ?_
    refine WR.seq ?_
    refine WR.region rfl ?_
    refine S.loadBA (i := 3) hS2019 rfl Try.underlying23 rfl ti23 rfl rfl rfl rfl ?_
    refine S.loadBA (i := 2) hS2019 rfl Try.underlying23 rfl ti23 rfl rfl rfl rfl ?_
    refine S.neqS rfl rfl (by kernel_rfl) (Eq1.struct Try.underlying23 (by kernel_rfl) (EqF.cons (by decide) (Part1.one Try.underlying2 rfl rfl) (Part1.one Try.underlying2 rfl rfl) (Eq1.int Try.underlying2) (EqF.one (by decide) (Part1.one Try.underlying2 rfl rfl) (Part1.one Try.underlying2 rfl rfl) (Eq1.int Try.underlying2)))) rfl ?_
    refine S.isFD (d := 94) rfl (by omega) ?_
    refine S.moveT rfl ?_
    refine S.moveT rfl ?_
    refine S.moveT rfl ?_
    refine S.neq rfl rfl rfl ?_
    refine S.isFD (d := 98) rfl (by omega) ?_
    refine S.pickF rfl rfl ?_
    refine S.moveT rfl ?_
    refine S.loadBA (i := 1) hS2019 rfl Try.underlying23 rfl ti23 rfl rfl rfl rfl ?_
    refine S.loadBA (i := 0) hS2019 rfl Try.underlying23 rfl ti23 rfl rfl rfl rfl ?_
    refine S.neqS rfl rfl (by kernel_rfl) (Eq1.struct Try.underlying23 (by kernel_rfl) (EqF.cons (by decide) (Part1.one Try.underlying2 rfl rfl) (Part1.one Try.underlying2 rfl rfl) (Eq1.int Try.underlying2) (EqF.one (by decide) (Part1.one Try.underlying2 rfl rfl) (Part1.one Try.underlying2 rfl rfl) (Eq1.int Try.underlying2)))) rfl ?_
    refine S.isFD (d := 103) rfl (by omega) ?_
    refine S.pickF rfl rfl ?_
    refine S.moveT rfl ?_
    refine S.moveT rfl ?_
    refine S.moveT rfl ?_
    refine S.neq rfl rfl rfl ?_
    refine S.isFD (d := 108) rfl (by omega) ?_
    refine S.pickF rfl rfl ?_
    refine WS.done ?_
    refine WR.condF rfl ?_
    refine WR.skip ?_
    refine WR.seq ?_
    refine WR.seq ?_
    refine WR.region rfl ?_
    refine S.moveT rfl ?_
    refine S.neq rfl rfl rfl ?_
    refine WS.done ?_
    refine WR.condD rfl (fun c111 => ?_) (fun c111 => ?_)
    ·
      skip
      refine WR.seq ?_
      refine WR.region rfl ?_
      refine S.assignC rfl ?_
      refine WS.done ?_
      refine WR.ret (ret1 rfl rfl ?_)
      first | exact ⟨rfl, hS2019.drop.drop.drop.drop.drop.drop.drop.drop.weak (hR64.trans (hR72.trans (hR80.trans hR88)))⟩ | exact ⟨rfl, hS2019.drop.drop.drop.drop.drop.drop.drop.drop.weak (hR64.trans (hR72.trans (hR80.trans (hR88.trans (hR115.trans hR122)))))⟩
    ·
      skip
      refine WR.skip ?_
      refine WR.seq ?_
      refine WR.region rfl ?_
      refine S.loadBA (i := 7) hS2019 rfl Try.underlying23 rfl ti23 rfl rfl rfl rfl ?_
      refine S.loadBA (i := 6) hS2019 rfl Try.underlying23 rfl ti23 rfl rfl rfl rfl ?_
      first
        | refine S.buildRow (vs := [.agg _, .agg _]) hS2019 Try.underlying43 ti23 rfl rfl rfl rfl rfl rfl rfl ?_
        | refine S.buildRow hS2019 Try.underlying43 ti23 rfl rfl rfl rfl rfl rfl rfl ?_
      intro b115 w115 hS115; clear hS2019
      obtain ⟨R115, hR115, hro115, hSf115⟩ := hS115.keepRow (enc := gpE) (n := 2) [(a, b), (c, d)] rfl (fun _ _ => rfl)
      replace hro64 := hro64.mono hR115
      replace hro72 := hro72.mono hR115
      replace hro80 := hro80.mono hR115
      replace hro88 := hro88.mono hR115
      refine S.call ent20 rfl (g_meet hSf115 (by exact hro115) (by simp)) rfl ?_
      rintro _ w116 ⟨p116, q116, e116, rfl, hG116, hS116⟩
      clear hSf115
      refine S.moveT rfl ?_
      refine S.extract rfl rfl rfl ?_
      refine S.extract rfl rfl rfl ?_
      refine S.alloc hS116 ti23 rfl rfl ?_
      intro b21 w21 hS21; clear hS116
      refine S.storeB (i := 0) hS21 rfl ti23 rfl rfl rfl rfl rfl rfl rfl rfl ?_
      intro w2020 hS2020; clear hS21
      refine S.assignT rfl ?_
      refine WS.done ?_
      refine WR.seq ?_
      refine WR.region rfl ?_
      refine S.loadBA (i := 0) hS2020 rfl Try.underlying23 rfl ti23 rfl rfl rfl rfl ?_
      refine S.loadBA (i := 6) hS2020 rfl Try.underlying23 rfl ti23 rfl rfl rfl rfl ?_
      first
        | refine S.buildRow (vs := [.agg _, .agg _]) hS2020 Try.underlying43 ti23 rfl rfl rfl rfl rfl rfl rfl ?_
        | refine S.buildRow hS2020 Try.underlying43 ti23 rfl rfl rfl rfl rfl rfl rfl ?_
      intro b122 w122 hS122; clear hS2020
      obtain ⟨R122, hR122, hro122, hSf122⟩ := hS122.keepRow (enc := gpE) (n := 2) [(p116, q116), (f, g)] rfl (fun _ _ => rfl)
      replace hro64 := hro64.mono hR122
      replace hro72 := hro72.mono hR122
      replace hro80 := hro80.mono hR122
      replace hro88 := hro88.mono hR122
      replace hro115 := hro115.mono hR122
      refine S.call ent20 rfl (g_meet hSf122 (by exact hro122) (by simp)) rfl ?_
      rintro _ w123 ⟨p123, q123, e123, rfl, hG123, hS123⟩
      clear hSf122
      have hst := meet_step hG65 (by omega) hG116 hG123
      have hwi := meet_hull hG65 (by omega) hG81
      refine S.moveT rfl ?_
      refine S.extract rfl rfl rfl ?_
      refine S.extract rfl rfl rfl ?_
      refine S.alloc hS123 ti23 rfl rfl ?_
      intro b23 w23 hS23; clear hS123
      refine S.storeB (i := 0) hS23 rfl ti23 rfl rfl rfl rfl rfl rfl rfl rfl ?_
      intro w2021 hS2021; clear hS23
      refine S.assignT rfl ?_
      refine WS.done ?_
      refine WR.seq ?_
      refine WR.region rfl ?_
      refine S.moveT rfl ?_
      refine S.eql rfl rfl rfl ?_
      refine S.isTD (d := 127) rfl (by omega) ?_
      refine S.moveT rfl ?_
      refine S.moveT rfl ?_
      refine S.eql rfl rfl rfl ?_
      refine S.isTD (d := 130) rfl (by omega) ?_
      refine S.pickT rfl rfl ?_
      refine S.moveT rfl ?_
      refine S.loadBA (i := 0) hS2021 rfl Try.underlying23 rfl ti23 rfl rfl rfl rfl ?_
      refine S.loadBA (i := 5) hS2021 rfl Try.underlying23 rfl ti23 rfl rfl rfl rfl ?_
      refine S.eqlS rfl rfl (by kernel_rfl) (Eq1.struct Try.underlying23 (by kernel_rfl) (EqF.cons (by decide) (Part1.one Try.underlying2 rfl rfl) (Part1.one Try.underlying2 rfl rfl) (Eq1.int Try.underlying2) (EqF.one (by decide) (Part1.one Try.underlying2 rfl rfl) (Part1.one Try.underlying2 rfl rfl) (Eq1.int Try.underlying2)))) rfl ?_
      refine S.isTD (d := 135) rfl (by omega) ?_
      refine S.pickT rfl rfl ?_
      refine S.moveT rfl ?_
      refine S.loadBA (i := 5) hS2021 rfl Try.underlying23 rfl ti23 rfl rfl rfl rfl ?_
      refine S.loadBA (i := 3) hS2021 rfl Try.underlying23 rfl ti23 rfl rfl rfl rfl ?_
      refine S.call ent18 rfl (g_within hS2021 ) rfl ?_
      rintro _ w140 ⟨rfl, hS140⟩
      clear hS2021
      refine S.isTD (d := 140) rfl (by omega) ?_
      refine S.pickT rfl rfl ?_
      refine S.assignT rfl ?_
      refine WS.done ?_
      refine WR.ret (ret1 rfl rfl ?_)
      first | exact ⟨rfl, hS140.drop.drop.drop.drop.drop.drop.drop.drop.drop.drop.weak (hR64.trans (hR72.trans (hR80.trans hR88)))⟩ | exact ⟨rfl, hS140.drop.drop.drop.drop.drop.drop.drop.drop.drop.drop.weak (hR64.trans (hR72.trans (hR80.trans (hR88.trans (hR115.trans hR122)))))⟩


end Go.Proofs.Ytogciedegglogaa.B

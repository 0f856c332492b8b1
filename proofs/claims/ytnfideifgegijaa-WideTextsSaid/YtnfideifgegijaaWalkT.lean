import Derived.Test.YtnfideifgegijaaWalkF
namespace Go.Proofs.Ytnfideifgegijaa.B
open Go.Proofs Go.RowKit
set_option linter.unusedVariables false
set_option linter.unusedSimpArgs false
theorem txt_size {z : Int} (h : z.natAbs < 10 ^ 39) : (bS (txt z)).size ≤ 40 := by
  have h1 := sB_len (bS (txt z))
  rw [sB_bS (txt_byte _)] at h1
  have h2 := dl_len 38 z.natAbs h
  have h3 : (txt z).length ≤ 40 := by unfold txt; split <;> simp <;> omega
  omega
theorem parse_own {A V h l : Int} {b : Bool} (hA : wfit A) (hP : (b = true ∧ prs (txt A) = some V) ∨ (b = false ∧ prs (txt A) = none ∧ h = 0 ∧ l = 0)) : b = true ∧ V = A := by
  rw [prs_of hA] at hP
  rcases hP with ⟨h1, h2⟩ | ⟨_, h2, _⟩
  · exact ⟨h1, by injection h2 with h2; exact h2.symm⟩
  · cases h2
theorem texts_same {xs : List Int} {V z h l : Int} {b c : Bool} (hP : (b = true ∧ prs xs = some V) ∨ (b = false ∧ prs xs = none ∧ h = 0 ∧ l = 0)) (hQ : (c = true ∧ rprs xs = some z) ∨ (c = false ∧ rprs xs = none ∧ z = 0)) :
    b = true ↔ c = true ∧ wfit z := by
  constructor
  · intro hb
    rcases hP with ⟨_, h1⟩ | ⟨h1, _⟩
    · obtain ⟨h2, h3⟩ := (prs_iff xs V).1 h1
      rcases hQ with ⟨g1, g2⟩ | ⟨_, g2, _⟩
      · rw [h2] at g2; injection g2 with g2; subst g2; exact ⟨g1, h3⟩
      · rw [h2] at g2; cases g2
    · rw [h1] at hb; cases hb
  · rintro ⟨hc, hw⟩
    rcases hQ with ⟨_, g2⟩ | ⟨g1, _⟩
    · have := (prs_iff xs z).2 ⟨g2, hw⟩
      rcases hP with ⟨h1, _⟩ | ⟨_, h1, _⟩
      · exact h1
      · rw [this] at h1; cases h1
    · rw [g1] at hc; cases hc
theorem texts_z {xs : List Int} {V z h l : Int} {b c : Bool} (hP : (b = true ∧ prs xs = some V) ∨ (b = false ∧ prs xs = none ∧ h = 0 ∧ l = 0)) (hQ : (c = true ∧ rprs xs = some z) ∨ (c = false ∧ rprs xs = none ∧ z = 0)) (hb : b = true) :
    (txt V = xs ∧ wfit V) ∧ z = V := by
  rcases hP with ⟨_, h1⟩ | ⟨h1, _⟩
  · refine ⟨prs_txt h1, ?_⟩
    obtain ⟨h2, _⟩ := (prs_iff xs V).1 h1
    rcases hQ with ⟨_, g2⟩ | ⟨_, g2, _⟩
    · rw [h2] at g2; injection g2 with g2; exact g2.symm
    · rw [h2] at g2; cases g2
  · rw [h1] at hb; cases hb
theorem texts_none {xs : List Int} {V h l : Int} {b : Bool} (hP : (b = true ∧ prs xs = some V) ∨ (b = false ∧ prs xs = none ∧ h = 0 ∧ l = 0)) (hb : b = false) : h = 0 ∧ l = 0 := by
  rcases hP with ⟨h1, _⟩ | ⟨_, _, h1⟩
  · rw [h1] at hb; cases hb
  · exact h1
theorem same_no {b c : Bool} {p : Prop} (h : b = true ↔ c = true ∧ p) (hc : c = false) : (!(b == false)) = false := by
  cases b
  · rfl
  · have := (h.1 rfl).1; rw [hc] at this; cases this
theorem same_yes {b c : Bool} {p : Prop} [Decidable p] (h : b = true ↔ c = true ∧ p) (hc : c = true) : (!(b == decide p)) = false := by
  by_cases hp : p
  · rw [h.2 ⟨hc, hp⟩]; simp [hp]
  · cases b
    · simp [hp]
    · exact absurd (h.1 rfl).2 hp
theorem num_sign {z : Int} {ng ng' : Bool} {ds ds' : List Int} (hd : dig ds) (hc : canon ds) (hn : ng = true → ds ≠ []) (h : z = if ng = true then - val ds else val ds)
    (hd' : dig ds') (hc' : canon ds') (hn' : ng' = true → ds' ≠ []) (h' : z = if ng' = true then - val ds' else val ds') : (ng == ng') = true := by
  cases ng <;> cases ng'
  · rfl
  · have h1 := num_neg hd' hc' hn' h' rfl
    have h2 := num_nneg hd h rfl
    omega
  · have h1 := num_neg hd hc hn h rfl
    have h2 := num_nneg hd' h' rfl
    omega
  · rfl
set_option maxRecDepth 100000 in
set_option maxHeartbeats 4000000 in
theorem law_WideTexts {w : World} {R : Kn} {L : List HP}  (hS : St w R (L)) {ah al : Int} {s : ByteArray} (ha : fits ah) (hal : (0 ≤ al ∧ al < 18446744073709551616)) (hs : s.size ≤ 140737488355328) :
    Fn Try.prog 5 #[.agg #[.int .i64 (ah), .int .u64 (al)], .string s] w (fun v w' => v = .bool true ∧ St w' R L) := by
  have hwA := w_in ha hal
  obtain ⟨A, hA⟩ : ∃ A, (ah * 18446744073709551616 + al) = A := ⟨_, rfl⟩
  have hA39 := wfit_lt (hA ▸ hwA)
  have hwA2 : wfit A := hA ▸ hwA
  have hah := id ha
  unfold fits at hah
  have hts := txt_size hA39
  refine Fn.intro (n := 89) Try.func5 rfl rfl rfl ?_
  refine WR.seq ?_
  refine WR.region rfl ?_
  refine S.box hS rfl rfl rfl ?_
  intro b2 w2 hS2; clear hS
  refine S.assignC rfl ?_
  refine WS.done ?_
  refine WR.seq ?_
  refine WR.seq ?_
  refine WR.region rfl ?_
  refine S.call ent8 rfl (l2_alive hS2 ) rfl ?_
  rintro _ w15 ⟨rfl, hS15⟩
  clear hS2
  refine S.not rfl rfl ?_
  refine WS.done ?_
  refine WR.condF rfl ?_
  refine WR.skip ?_
  refine WR.seq ?_
  refine WR.seq ?_
  refine WR.region rfl ?_
  refine S.moveT rfl ?_
  refine S.lenStr Try.underlying9 rfl rfl ?_
  refine S.gtr rfl rfl rfl ?_
  refine WS.done ?_
  refine WR.condD rfl (fun c19 => ?_) (fun c19 => ?_)
  ·
    skip
    refine WR.seq ?_
    refine WR.region rfl ?_
    refine S.assignC rfl ?_
    refine WS.done ?_
    refine WR.ret (ret1 rfl rfl ?_)
    first | exact ⟨rfl, hS15.drop⟩ | exact ⟨rfl, hS15.drop.weak (hR34.trans hR45)⟩ | exact ⟨rfl, hS15.drop.weak (hR34.trans (hR45.trans (hR71.trans hR78)))⟩
  ·
    skip
    refine WR.skip ?_
    refine WR.seq ?_
    refine WR.region rfl ?_
    refine S.loadBA (i := 0) hS15 rfl Try.underlying24 rfl ti24 rfl rfl rfl rfl ?_
    refine S.call ent26 rfl (w_text hS15 (by exact ha) (by exact hal)) rfl ?_
    rintro _ w21 ⟨rfl, hS21⟩
    clear hS15
    refine S.assignT rfl ?_
    refine WS.done ?_
    refine WR.seq ?_
    refine WR.region rfl ?_
    refine S.moveT rfl ?_
    refine S.call ent27 rfl (w_parse hS21 (by rw [hA]; omega)) rfl ?_
    rintro _ w24 ⟨h24, l24, b24, rfl, hf24, hP24, hS24⟩
    clear hS21
    rw [hA, sB_bS (txt_byte _)] at hP24
    obtain ⟨rfl, hVA⟩ := parse_own hwA2 hP24
    have hf24' := hf24.1
    unfold fits at hf24'
    obtain ⟨rfl, rfl⟩ : ah = h24 ∧ al = l24 := by omega
    refine S.moveT rfl ?_
    refine S.extract rfl rfl rfl ?_
    refine S.extract rfl rfl rfl ?_
    refine S.alloc hS24 ti24 rfl rfl ?_
    intro b6 w6 hS6; clear hS24
    refine S.storeB (i := 0) hS6 rfl ti24 rfl rfl rfl rfl rfl rfl rfl rfl ?_
    intro w2001 hS2001; clear hS6
    refine S.assignT rfl ?_
    refine S.isTD (p := True) (d := 7) rfl trivial ?_
    refine WS.done ?_
    refine WR.seq ?_
    refine WR.region rfl ?_
    refine S.moveT rfl ?_
    refine S.call ent27 rfl (w_parse hS2001 (by omega)) rfl ?_
    rintro _ w29 ⟨h29, l29, b29, rfl, hf29, hP29, hS29⟩
    clear hS2001
    refine S.moveT rfl ?_
    refine S.extract rfl rfl rfl ?_
    refine S.extract rfl rfl rfl ?_
    refine S.alloc hS29 ti24 rfl rfl ?_
    intro b8 w8 hS8; clear hS29
    refine S.storeB (i := 0) hS8 rfl ti24 rfl rfl rfl rfl rfl rfl rfl rfl ?_
    intro w2002 hS2002; clear hS8
    refine S.assignT rfl ?_
    refine WS.done ?_
    refine WR.seq ?_
    refine WR.region rfl ?_
    refine S.moveT rfl ?_
    refine S.call ent28 rfl (r2_parse hS2002 (by omega)) rfl ?_
    rintro _ w34 ⟨R34, v134, z34, b34, hR34, rfl, hN34, hz34, hP34, hS34⟩
    clear hS2002
    have hM34 := hN34
    obtain ⟨ng34, s34, ds34, rfl, hro34, hd34, hcn34, hnz34, hzz34⟩ := hN34
    obtain ⟨aa34, cc34, rfl, hll34⟩ := hro34.len
    refine S.moveT rfl ?_
    refine S.extract rfl rfl rfl ?_
    refine S.extract rfl rfl rfl ?_
    refine S.alloc hS34 ti34 rfl rfl ?_
    intro b10 w10 hS10; clear hS34
    refine S.storeB (i := 0) hS10 rfl ti34 rfl rfl rfl rfl rfl rfl rfl rfl ?_
    intro w2003 hS2003; clear hS10
    refine S.assignT rfl ?_
    refine WS.done ?_
    refine WR.seq ?_
    refine WR.region rfl ?_
    refine S.loadBA (i := 0) hS2003 rfl Try.underlying34 rfl ti34 rfl rfl rfl rfl ?_
    refine S.call ent29 rfl (r2_words hS2003 (by exact hM34) (by omega)) rfl ?_
    rintro _ w39 ⟨h39, l39, rfl, hW39, hS39⟩
    clear hS2003
    have hsm := texts_same hP29 hP34
    refine S.moveT rfl ?_
    refine S.extract rfl rfl rfl ?_
    refine S.extract rfl rfl rfl ?_
    refine S.extract rfl rfl rfl ?_
    refine S.assignT rfl ?_
    refine S.assignT rfl ?_
    refine S.assignT rfl ?_
    refine WS.done ?_
    refine WR.seq ?_
    refine WR.seq ?_
    refine WR.region rfl ?_
    refine S.moveT rfl ?_
    refine S.loadBA (i := 3) hS39 rfl Try.underlying24 rfl ti24 rfl rfl rfl rfl ?_
    refine S.call ent13 rfl (l2_num hS39 (by exact ha) (by exact hal)) rfl ?_
    rintro v45 w45 ⟨R45, hR45, hN45, hS45⟩
    clear hS39
    have hM45 := hN45
    obtain ⟨ng45, s45, ds45, rfl, hro45, hd45, hcn45, hnz45, hz45⟩ := hN45
    obtain ⟨aa45, cc45, rfl, hll45⟩ := hro45.len
    replace hro34 := hro34.mono hR45
    replace hM34 := hM34.mono hR45
    refine S.call ent30 rfl (r2_text hS45 (by exact hM45) (by rw [hA]; exact hA39)) rfl ?_
    rintro _ w46 ⟨rfl, hS46⟩
    clear hS45
    refine S.neqStr rfl rfl rfl ?_
    refine S.isFD (d := 47) rfl (by exact fun h => h rfl) ?_
    refine S.moveT rfl ?_
    refine S.moveT rfl ?_
    refine S.not rfl rfl ?_
    refine S.pickF rfl rfl ?_
    refine S.moveT rfl ?_
    refine S.loadBA (i := 2) hS46 rfl Try.underlying24 rfl ti24 rfl rfl rfl rfl ?_
    refine S.loadBA (i := 3) hS46 rfl Try.underlying24 rfl ti24 rfl rfl rfl rfl ?_
    refine S.neqS rfl rfl (by kernel_rfl) (Eq1.struct Try.underlying24 (by kernel_rfl) (EqF.cons (by decide) (Part1.one Try.underlying2 rfl rfl) (Part1.one Try.underlying2 rfl rfl) (Eq1.int Try.underlying2) (EqF.one (by decide) (Part1.one Try.underlying22 rfl rfl) (Part1.one Try.underlying22 rfl rfl) (Eq1.int Try.underlying22)))) rfl ?_
    refine S.isFD (d := 55) rfl (by exact fun h => h ⟨rfl, rfl⟩) ?_
    refine S.pickF rfl rfl ?_
    refine S.moveT rfl ?_
    refine S.moveT rfl ?_
    refine S.moveT rfl ?_
    refine S.moveT rfl ?_
    refine S.splitB (d := 60) rfl (fun c60 => ?_) (fun c60 => ?_)
    ·
      skip
      refine S.moveT rfl ?_
      refine S.pickT rfl rfl ?_
      refine S.neqB Try.underlying4 rfl rfl rfl ?_
      refine S.isB (d := 63) (c := false) rfl (by first | exact same_no hsm (by assumption) | exact same_yes hsm (by assumption)) ?_
      refine S.pickF rfl rfl ?_
      refine WS.done ?_
      refine WR.condF rfl ?_
      refine WR.skip ?_
      refine WR.seq ?_
      refine WR.seq ?_
      refine WR.region rfl ?_
      refine S.moveT rfl ?_
      refine S.not rfl rfl ?_
      refine WS.done ?_
      refine WR.cond rfl (fun c66 => ?_) (fun c66 => ?_)
      ·
        skip
        refine WR.seq ?_
        refine WR.region rfl ?_
        refine S.loadBA (i := 1) hS46 rfl Try.underlying24 rfl ti24 rfl rfl rfl rfl ?_
        refine S.buildZero ti24 rfl (by kernel_rfl) rfl ?_
        refine S.eqlS rfl rfl (by kernel_rfl) (Eq1.struct Try.underlying24 (by kernel_rfl) (EqF.cons (by decide) (Part1.one Try.underlying2 rfl rfl) (Part1.one Try.underlying2 rfl rfl) (Eq1.int Try.underlying2) (EqF.one (by decide) (Part1.one Try.underlying22 rfl rfl) (Part1.one Try.underlying22 rfl rfl) (Eq1.int Try.underlying22)))) rfl ?_
        refine S.isTD (d := 69) rfl (by exact texts_none hP29 (by simpa using c66)) ?_
        refine S.assignT rfl ?_
        refine WS.done ?_
        refine WR.ret (ret1 rfl rfl ?_)
        first | exact ⟨rfl, hS46.drop.drop.drop.drop⟩ | exact ⟨rfl, hS46.drop.drop.drop.drop.weak (hR34.trans hR45)⟩ | exact ⟨rfl, hS46.drop.drop.drop.drop.weak (hR34.trans (hR45.trans (hR71.trans hR78)))⟩
      ·
        skip
        refine WR.skip ?_
        refine WR.seq ?_
        have hb29 : b29 = true := by simpa using c66
        obtain ⟨hx29, hzV⟩ := texts_z hP29 hP34 hb29
        subst hzV
        refine WR.regionW (fun j => false) 20 rfl mixed hS46 ?_
        intro w6004 hS6004; clear hS46; have hC := hS6004
        refine WA.take (fuel := 19) 0 rfl (by kernel_rfl) (by kernel_rfl) (by kernel_rfl) (by kernel_rfl) rfl rfl hC ?_
        refine Q.loadBA (i := 1) rfl Try.underlying24 rfl ti24 rfl rfl rfl rfl ?_
        refine WQ.done ?_
        refine WA.take (fuel := 18) 3 rfl (by kernel_rfl) (by kernel_rfl) (by kernel_rfl) (by kernel_rfl) rfl rfl hC ?_
        refine Q.fieldB Try.underlying34 rfl ti4 rfl rfl rfl rfl ?_
        refine WQ.done ?_
        refine WA.take (fuel := 17) 4 rfl (by kernel_rfl) (by kernel_rfl) (by kernel_rfl) (by kernel_rfl) rfl rfl hC ?_
        refine Q.loadB (i := 0) rfl Try.underlying4 rfl rfl rfl rfl ?_
        refine WQ.done ?_
        refine WA.one (fuel := 16) 1 rfl (by kernel_rfl) rfl ?_
        refine S.call ent13 rfl (l2_num hS6004 (by exact hf29.1) (by exact hf29.2)) rfl ?_
        rintro v71 w71 ⟨R71, hR71, hN71, hS71⟩
        clear hS6004
        have hM71 := hN71
        obtain ⟨ng71, s71, ds71, rfl, hro71, hd71, hcn71, hnz71, hz71⟩ := hN71
        obtain ⟨aa71, cc71, rfl, hll71⟩ := hro71.len
        replace hro34 := hro34.mono hR71
        replace hM34 := hM34.mono hR71
        replace hro45 := hro45.mono hR71
        refine WS.done ⟨fun _ => (hS71.weak hR71), ?_⟩
        replace hC := (hS71.weak hR71)
        refine WA.take (fuel := 15) 2 rfl (by kernel_rfl) (by kernel_rfl) (by kernel_rfl) (by kernel_rfl) rfl rfl hC ?_
        refine Q.field1 Try.underlying34 rfl Try.underlying4 rfl rfl rfl rfl ?_
        refine WQ.done ?_
        refine WA.take (fuel := 14) 5 rfl (by kernel_rfl) (by kernel_rfl) (by kernel_rfl) (by kernel_rfl) rfl rfl hC ?_
        refine Q.eqlB Try.underlying4 rfl rfl rfl ?_
        refine Q.isB (d := 75) (c := true) rfl (by exact num_sign hd71 hcn71 hnz71 hz71 hd34 hcn34 hnz34 hzz34) ?_
        refine WQ.done ?_
        refine WA.take (fuel := 13) 6 rfl (by kernel_rfl) (by kernel_rfl) (by kernel_rfl) (by kernel_rfl) rfl rfl hC ?_
        refine Q.moveT rfl ?_
        refine WQ.done ?_
        refine WA.take (fuel := 12) 7 rfl (by kernel_rfl) (by kernel_rfl) (by kernel_rfl) (by kernel_rfl) rfl rfl hC ?_
        refine Q.loadBA (i := 1) rfl Try.underlying24 rfl ti24 rfl rfl rfl rfl ?_
        refine WQ.done ?_
        refine WA.take (fuel := 11) 9 rfl (by kernel_rfl) (by kernel_rfl) (by kernel_rfl) (by kernel_rfl) rfl rfl hC ?_
        refine Q.loadBA (i := 0) rfl Try.underlying34 rfl ti34 rfl rfl rfl rfl ?_
        refine WQ.done ?_
        refine WA.one (fuel := 10) 8 rfl (by kernel_rfl) rfl ?_
        refine S.call ent13 rfl (l2_num hS71 (by exact hf29.1) (by exact hf29.2)) rfl ?_
        rintro v78 w78 ⟨R78, hR78, hN78, hS78⟩
        clear hS71
        have hM78 := hN78
        obtain ⟨ng78, s78, ds78, rfl, hro78, hd78, hcn78, hnz78, hz78⟩ := hN78
        obtain ⟨aa78, cc78, rfl, hll78⟩ := hro78.len
        replace hro34 := hro34.mono hR78
        replace hM34 := hM34.mono hR78
        replace hro45 := hro45.mono hR78
        replace hro71 := hro71.mono hR78
        refine WS.done ⟨fun _ => ((hS78.weak hR78).weak hR71), ?_⟩
        replace hC := ((hS78.weak hR78).weak hR71)
        refine WA.one (fuel := 9) 10 rfl (by kernel_rfl) rfl ?_
        refine S.call ent18 rfl (r_cmp hS78 (by exact hM78) (by exact hM34) (by exact lt_big (by omega)) (by exact lt_big (by omega))) rfl ?_
        rintro _ w80 ⟨rfl, hS80⟩
        clear hS78
        refine WS.done ⟨fun _ => ((hS80.weak hR78).weak hR71), ?_⟩
        replace hC := ((hS80.weak hR78).weak hR71)
        refine WA.take (fuel := 8) 11 rfl (by kernel_rfl) (by kernel_rfl) (by kernel_rfl) (by kernel_rfl) rfl rfl hC ?_
        refine Q.eql rfl rfl rfl ?_
        refine Q.isTD (d := 81) rfl (by rw [if_neg (Int.lt_irrefl _), if_pos rfl]) ?_
        refine WQ.done ?_
        refine WA.take (fuel := 7) 12 rfl (by kernel_rfl) (by kernel_rfl) (by kernel_rfl) (by kernel_rfl) rfl rfl hC ?_
        refine Q.pickT rfl rfl ?_
        refine WQ.done ?_
        refine WA.take (fuel := 6) 13 rfl (by kernel_rfl) (by kernel_rfl) (by kernel_rfl) (by kernel_rfl) rfl rfl hC ?_
        refine Q.moveT rfl ?_
        refine WQ.done ?_
        refine WA.take (fuel := 5) 14 rfl (by kernel_rfl) (by kernel_rfl) (by kernel_rfl) (by kernel_rfl) rfl rfl hC ?_
        refine Q.loadBA (i := 1) rfl Try.underlying24 rfl ti24 rfl rfl rfl rfl ?_
        refine WQ.done ?_
        refine WA.take (fuel := 4) 16 rfl (by kernel_rfl) (by kernel_rfl) (by kernel_rfl) (by kernel_rfl) rfl rfl hC ?_
        refine Q.moveT rfl ?_
        refine WQ.done ?_
        refine WA.one (fuel := 3) 15 rfl (by kernel_rfl) rfl ?_
        refine S.call ent26 rfl (w_text hS80 (by exact hf29.1) (by exact hf29.2)) rfl ?_
        rintro _ w85 ⟨rfl, hS85⟩
        clear hS80
        refine WS.done ⟨fun _ => ((hS85.weak hR78).weak hR71), ?_⟩
        replace hC := ((hS85.weak hR78).weak hR71)
        refine WA.take (fuel := 2) 17 rfl (by kernel_rfl) (by kernel_rfl) (by kernel_rfl) (by kernel_rfl) rfl rfl hC ?_
        refine Q.eqlStr rfl rfl rfl ?_
        refine Q.isTD (d := 87) rfl (by rw [bS_eq (txt_byte _)]; exact hx29.1) ?_
        refine WQ.done ?_
        refine WA.take (fuel := 1) 18 rfl (by kernel_rfl) (by kernel_rfl) (by kernel_rfl) (by kernel_rfl) rfl rfl hC ?_
        refine Q.pickT rfl rfl ?_
        refine WQ.done ?_
        refine WA.take (fuel := 0) 19 rfl (by kernel_rfl) (by kernel_rfl) (by kernel_rfl) (by kernel_rfl) rfl rfl hC ?_
        refine Q.assignT rfl ?_
        refine WQ.done ?_
        refine WA.done (by kernel_rfl) ?_
        clear hC
        refine WR.ret (ret1 rfl rfl ?_)
        first | exact ⟨rfl, hS85.drop.drop.drop.drop⟩ | exact ⟨rfl, hS85.drop.drop.drop.drop.weak (hR34.trans hR45)⟩ | exact ⟨rfl, hS85.drop.drop.drop.drop.weak (hR34.trans (hR45.trans (hR71.trans hR78)))⟩
    ·
      skip
      refine S.off rfl ?_
      refine S.pickFC rfl rfl ?_
      refine S.neqB Try.underlying4 rfl rfl rfl ?_
      refine S.isB (d := 63) (c := false) rfl (by first | exact same_no hsm (by assumption) | exact same_yes hsm (by assumption)) ?_
      refine S.pickF rfl rfl ?_
      refine WS.done ?_
      refine WR.condF rfl ?_
      refine WR.skip ?_
      refine WR.seq ?_
      refine WR.seq ?_
      refine WR.region rfl ?_
      refine S.moveT rfl ?_
      refine S.not rfl rfl ?_
      refine WS.done ?_
      refine WR.cond rfl (fun c66 => ?_) (fun c66 => ?_)
      ·
        skip
        refine WR.seq ?_
        refine WR.region rfl ?_
        refine S.loadBA (i := 1) hS46 rfl Try.underlying24 rfl ti24 rfl rfl rfl rfl ?_
        refine S.buildZero ti24 rfl (by kernel_rfl) rfl ?_
        refine S.eqlS rfl rfl (by kernel_rfl) (Eq1.struct Try.underlying24 (by kernel_rfl) (EqF.cons (by decide) (Part1.one Try.underlying2 rfl rfl) (Part1.one Try.underlying2 rfl rfl) (Eq1.int Try.underlying2) (EqF.one (by decide) (Part1.one Try.underlying22 rfl rfl) (Part1.one Try.underlying22 rfl rfl) (Eq1.int Try.underlying22)))) rfl ?_
        refine S.isTD (d := 69) rfl (by exact texts_none hP29 (by simpa using c66)) ?_
        refine S.assignT rfl ?_
        refine WS.done ?_
        refine WR.ret (ret1 rfl rfl ?_)
        first | exact ⟨rfl, hS46.drop.drop.drop.drop⟩ | exact ⟨rfl, hS46.drop.drop.drop.drop.weak (hR34.trans hR45)⟩ | exact ⟨rfl, hS46.drop.drop.drop.drop.weak (hR34.trans (hR45.trans (hR71.trans hR78)))⟩
      ·
        skip
        refine WR.skip ?_
        refine WR.seq ?_
        have hb29 : b29 = true := by simpa using c66
        obtain ⟨hx29, hzV⟩ := texts_z hP29 hP34 hb29
        subst hzV
        refine WR.regionW (fun j => false) 20 rfl mixed hS46 ?_
        intro w6005 hS6005; clear hS46; have hC := hS6005
        refine WA.take (fuel := 19) 0 rfl (by kernel_rfl) (by kernel_rfl) (by kernel_rfl) (by kernel_rfl) rfl rfl hC ?_
        refine Q.loadBA (i := 1) rfl Try.underlying24 rfl ti24 rfl rfl rfl rfl ?_
        refine WQ.done ?_
        refine WA.take (fuel := 18) 3 rfl (by kernel_rfl) (by kernel_rfl) (by kernel_rfl) (by kernel_rfl) rfl rfl hC ?_
        refine Q.fieldB Try.underlying34 rfl ti4 rfl rfl rfl rfl ?_
        refine WQ.done ?_
        refine WA.take (fuel := 17) 4 rfl (by kernel_rfl) (by kernel_rfl) (by kernel_rfl) (by kernel_rfl) rfl rfl hC ?_
        refine Q.loadB (i := 0) rfl Try.underlying4 rfl rfl rfl rfl ?_
        refine WQ.done ?_
        refine WA.one (fuel := 16) 1 rfl (by kernel_rfl) rfl ?_
        refine S.call ent13 rfl (l2_num hS6005 (by exact hf29.1) (by exact hf29.2)) rfl ?_
        rintro v71 w71 ⟨R71, hR71, hN71, hS71⟩
        clear hS6005
        have hM71 := hN71
        obtain ⟨ng71, s71, ds71, rfl, hro71, hd71, hcn71, hnz71, hz71⟩ := hN71
        obtain ⟨aa71, cc71, rfl, hll71⟩ := hro71.len
        replace hro34 := hro34.mono hR71
        replace hM34 := hM34.mono hR71
        replace hro45 := hro45.mono hR71
        refine WS.done ⟨fun _ => (hS71.weak hR71), ?_⟩
        replace hC := (hS71.weak hR71)
        refine WA.take (fuel := 15) 2 rfl (by kernel_rfl) (by kernel_rfl) (by kernel_rfl) (by kernel_rfl) rfl rfl hC ?_
        refine Q.field1 Try.underlying34 rfl Try.underlying4 rfl rfl rfl rfl ?_
        refine WQ.done ?_
        refine WA.take (fuel := 14) 5 rfl (by kernel_rfl) (by kernel_rfl) (by kernel_rfl) (by kernel_rfl) rfl rfl hC ?_
        refine Q.eqlB Try.underlying4 rfl rfl rfl ?_
        refine Q.isB (d := 75) (c := true) rfl (by exact num_sign hd71 hcn71 hnz71 hz71 hd34 hcn34 hnz34 hzz34) ?_
        refine WQ.done ?_
        refine WA.take (fuel := 13) 6 rfl (by kernel_rfl) (by kernel_rfl) (by kernel_rfl) (by kernel_rfl) rfl rfl hC ?_
        refine Q.moveT rfl ?_
        refine WQ.done ?_
        refine WA.take (fuel := 12) 7 rfl (by kernel_rfl) (by kernel_rfl) (by kernel_rfl) (by kernel_rfl) rfl rfl hC ?_
        refine Q.loadBA (i := 1) rfl Try.underlying24 rfl ti24 rfl rfl rfl rfl ?_
        refine WQ.done ?_
        refine WA.take (fuel := 11) 9 rfl (by kernel_rfl) (by kernel_rfl) (by kernel_rfl) (by kernel_rfl) rfl rfl hC ?_
        refine Q.loadBA (i := 0) rfl Try.underlying34 rfl ti34 rfl rfl rfl rfl ?_
        refine WQ.done ?_
        refine WA.one (fuel := 10) 8 rfl (by kernel_rfl) rfl ?_
        refine S.call ent13 rfl (l2_num hS71 (by exact hf29.1) (by exact hf29.2)) rfl ?_
        rintro v78 w78 ⟨R78, hR78, hN78, hS78⟩
        clear hS71
        have hM78 := hN78
        obtain ⟨ng78, s78, ds78, rfl, hro78, hd78, hcn78, hnz78, hz78⟩ := hN78
        obtain ⟨aa78, cc78, rfl, hll78⟩ := hro78.len
        replace hro34 := hro34.mono hR78
        replace hM34 := hM34.mono hR78
        replace hro45 := hro45.mono hR78
        replace hro71 := hro71.mono hR78
        refine WS.done ⟨fun _ => ((hS78.weak hR78).weak hR71), ?_⟩
        replace hC := ((hS78.weak hR78).weak hR71)
        refine WA.one (fuel := 9) 10 rfl (by kernel_rfl) rfl ?_
        refine S.call ent18 rfl (r_cmp hS78 (by exact hM78) (by exact hM34) (by exact lt_big (by omega)) (by exact lt_big (by omega))) rfl ?_
        rintro _ w80 ⟨rfl, hS80⟩
        clear hS78
        refine WS.done ⟨fun _ => ((hS80.weak hR78).weak hR71), ?_⟩
        replace hC := ((hS80.weak hR78).weak hR71)
        refine WA.take (fuel := 8) 11 rfl (by kernel_rfl) (by kernel_rfl) (by kernel_rfl) (by kernel_rfl) rfl rfl hC ?_
        refine Q.eql rfl rfl rfl ?_
        refine Q.isTD (d := 81) rfl (by rw [if_neg (Int.lt_irrefl _), if_pos rfl]) ?_
        refine WQ.done ?_
        refine WA.take (fuel := 7) 12 rfl (by kernel_rfl) (by kernel_rfl) (by kernel_rfl) (by kernel_rfl) rfl rfl hC ?_
        refine Q.pickT rfl rfl ?_
        refine WQ.done ?_
        refine WA.take (fuel := 6) 13 rfl (by kernel_rfl) (by kernel_rfl) (by kernel_rfl) (by kernel_rfl) rfl rfl hC ?_
        refine Q.moveT rfl ?_
        refine WQ.done ?_
        refine WA.take (fuel := 5) 14 rfl (by kernel_rfl) (by kernel_rfl) (by kernel_rfl) (by kernel_rfl) rfl rfl hC ?_
        refine Q.loadBA (i := 1) rfl Try.underlying24 rfl ti24 rfl rfl rfl rfl ?_
        refine WQ.done ?_
        refine WA.take (fuel := 4) 16 rfl (by kernel_rfl) (by kernel_rfl) (by kernel_rfl) (by kernel_rfl) rfl rfl hC ?_
        refine Q.moveT rfl ?_
        refine WQ.done ?_
        refine WA.one (fuel := 3) 15 rfl (by kernel_rfl) rfl ?_
        refine S.call ent26 rfl (w_text hS80 (by exact hf29.1) (by exact hf29.2)) rfl ?_
        rintro _ w85 ⟨rfl, hS85⟩
        clear hS80
        refine WS.done ⟨fun _ => ((hS85.weak hR78).weak hR71), ?_⟩
        replace hC := ((hS85.weak hR78).weak hR71)
        refine WA.take (fuel := 2) 17 rfl (by kernel_rfl) (by kernel_rfl) (by kernel_rfl) (by kernel_rfl) rfl rfl hC ?_
        refine Q.eqlStr rfl rfl rfl ?_
        refine Q.isTD (d := 87) rfl (by rw [bS_eq (txt_byte _)]; exact hx29.1) ?_
        refine WQ.done ?_
        refine WA.take (fuel := 1) 18 rfl (by kernel_rfl) (by kernel_rfl) (by kernel_rfl) (by kernel_rfl) rfl rfl hC ?_
        refine Q.pickT rfl rfl ?_
        refine WQ.done ?_
        refine WA.take (fuel := 0) 19 rfl (by kernel_rfl) (by kernel_rfl) (by kernel_rfl) (by kernel_rfl) rfl rfl hC ?_
        refine Q.assignT rfl ?_
        refine WQ.done ?_
        refine WA.done (by kernel_rfl) ?_
        clear hC
        refine WR.ret (ret1 rfl rfl ?_)
        first | exact ⟨rfl, hS85.drop.drop.drop.drop⟩ | exact ⟨rfl, hS85.drop.drop.drop.drop.weak (hR34.trans hR45)⟩ | exact ⟨rfl, hS85.drop.drop.drop.drop.weak (hR34.trans (hR45.trans (hR71.trans hR78)))⟩


end Go.Proofs.Ytnfideifgegijaa.B

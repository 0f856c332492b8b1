import Derived.Test.YtcbfmbcmokafpaaWalkF
namespace Go.Proofs.Ytcbfmbcmokafpaa.B
open Go.Proofs Go.RowKit
set_option linter.unusedVariables false
set_option linter.unusedSimpArgs false
def seqL (first : Int) (k : Nat) : List Int := (List.range k).map (fun j : Nat => first + (j : Int))
theorem seqL_len (first : Int) (k : Nat) : (seqL first k).length = k := by unfold seqL; rw [List.length_map, List.length_range]
theorem seqL_succ {first : Int} {k : Nat} : seqL first (k + 1) = seqL first k ++ [first + (k : Int)] := by unfold seqL; rw [List.range_succ, List.map_append]; rfl
theorem seqL_get {first : Int} {k j : Nat} (h : j < k) : (seqL first k).getD j 0 = first + (j : Int) := by
  unfold seqL; rw [List.getD_eq_getElem?_getD, List.getElem?_map, List.getElem?_range h]; rfl
theorem seqL_fits {first : Int} {k : Nat} (h : 0 ≤ first ∧ first ≤ 2199023255552) (hk : k ≤ 1000000) : ∀ x ∈ seqL first k, fits x := by
  intro x hx
  unfold seqL at hx
  obtain ⟨j, hj, rfl⟩ := List.mem_map.1 hx
  have := List.mem_range.1 hj
  unfold fits; omega
theorem offT_keys {n mo first : Int} {m : List (Int × Int)} {xs : List Int} (h : HI n mo m) (hv : ∀ p ∈ m, p.2 = p.1) (hx : ∀ j, j < xs.length → xs.getD j 0 = first + (j : Int)) : ∀ i, i ≤ xs.length → ∀ p ∈ (offT n mo m first xs i).1, p.2 = p.1
  | 0, _ => hv
  | i + 1, hi => by
    have ih := offT_keys h hv hx i (by omega)
    have e : offT n mo m first xs (i + 1) = offStep n mo (offT n mo m first xs i) (first + i) (xs.getD i 0) := rfl
    rw [e]
    by_cases q : first + (i : Int) < n ∨ (aget (offT n mo m first xs i).1 (first + i)).isSome = true
    · rw [offStep_old q]; exact ih
    · by_cases q2 : n + mo ≤ first + (i : Int)
      · rw [offStep_far q q2]; exact ih
      · rw [offStep_new q q2]
        have hg : aget (offT n mo m first xs i).1 (first + i) = none := by
          cases hg : aget (offT n mo m first xs i).1 (first + i) with
          | none => rfl
          | some u => exact absurd (.inr (by rw [hg]; rfl)) q
        simp only
        rw [aput_new hg]
        intro p hp
        rcases (mem_ains _).1 hp with rfl | hp
        · exact hx i (by omega)
        · exact ih p hp
theorem rel_keys : ∀ (m : List (Int × Int)) (n : Int), (∀ p ∈ m, p.2 = p.1) → (∀ (q : Nat) u, (rel n m).1[q]? = some u → u = n + q) ∧ (∀ p ∈ (rel n m).2.2, p.2 = p.1)
  | [], n, _ => ⟨fun q u h => by simp [rel] at h, fun p h => by cases h⟩
  | p :: r, n, h => by
    by_cases e : p.1 = n
    · obtain ⟨k, x⟩ := p
      simp only at e
      subst e
      have hx := h _ (List.mem_cons_self ..)
      simp only at hx
      obtain ⟨h1, h2⟩ := rel_keys r (k + 1) (fun p hp => h p (List.mem_cons_of_mem _ hp))
      rw [rel_hit]
      refine ⟨fun q u hu => ?_, h2⟩
      cases q with
      | zero => simp at hu; omega
      | succ q => simp at hu; have := h1 q u hu; omega
    · have hm : rel n (p :: r) = ([], n, p :: r) := rel_miss (fun q s hq => by injection hq with hq _; subst hq; exact e)
      rw [hm]
      exact ⟨fun q u h => by simp at h, h⟩
theorem offer_keys {n mo first : Int} {m : List (Int × Int)} {xs : List Int} (h : HI n mo m) (hv : ∀ p ∈ m, p.2 = p.1) (hx : ∀ j, j < xs.length → xs.getD j 0 = first + (j : Int)) (hl : xs.length ≤ 1000000) (hf : ∀ x ∈ xs, fits x) :
    (∀ (q : Nat) u, (offer n mo m first xs).1[q]? = some u → u = n + q) ∧ (∀ p ∈ (offer n mo m first xs).2.2.2, p.2 = p.1) ∧ (offer n mo m first xs).2.2.1 = n + (offer n mo m first xs).1.length := by
  by_cases q : first < 0 ∨ 2199023255552 < first
  · rw [offer_out q]; exact ⟨fun q u h => by simp at h, hv, by simp⟩
  · rw [offer_in q]
    obtain ⟨h1, h2⟩ := rel_keys _ n (offT_keys h hv hx xs.length (Nat.le_refl _))
    exact ⟨h1, h2, ((h.offT (first := first) (by omega) hl hf xs.length (Nat.le_refl _)).1.rel).2.2.1⟩
theorem strict_len {n mo : Int} {m : List (Int × Int)} (h : HI n mo m) (hs : ∀ p ∈ m, n < p.1) : (m.length : Int) < mo := by
  have := rise_len (n + mo) m (n + 1) h.rise (fun p hp => by have := hs p hp; omega) h.hi
  have := h.mo0
  omega
theorem keys_in {n mo u : Int} {m : List (Int × Int)} {z : Nat} (hs : ∀ p ∈ m, n < p.1) (h : HI n mo m) (hu : (m.map (·.1))[z]? = some u) : n < u ∧ u < n + mo := by
  rw [List.getElem?_map] at hu
  obtain ⟨p, hp, rfl⟩ := Option.map_eq_some_iff.1 hu
  exact ⟨hs p (List.mem_of_getElem? hp), h.hi p (List.mem_of_getElem? hp)⟩
theorem keys_rise {n mo u v : Int} {m : List (Int × Int)} {y z : Nat} (h : HI n mo m) (hyz : y < z) (hu : (m.map (·.1))[y]? = some u) (hv : (m.map (·.1))[z]? = some v) : u < v := by
  rw [List.getElem?_map] at hu hv
  obtain ⟨p, hp, rfl⟩ := Option.map_eq_some_iff.1 hu
  obtain ⟨q, hq, rfl⟩ := Option.map_eq_some_iff.1 hv
  have h1 := List.getElem?_eq_some_iff.1 hp
  have h2 := List.getElem?_eq_some_iff.1 hq
  have := List.pairwise_iff_getElem.1 h.rise y z h1.1 h2.1 hyz
  rw [h1.2, h2.2] at this
  exact this
set_option maxRecDepth 100000 in
set_option maxHeartbeats 4000000 in
theorem law_HoldOrder {w : World} {R : Kn} {L : List HP}  (hS : St w R (L)) {n mo : Int} (hn : fits n) (hmo : fits mo) {vc : Value} {cs : List CallC} (hCC : RoC R vc cs) (hmc : cs.length ≤ 140737488355328) :
    Fn Try.prog 4 #[.int .i64 n, .int .i64 mo, vc] w (fun v w' => v = .bool true ∧ St w' R L) := by
  have hrc := hCC.row
  obtain ⟨ac, cc, rfl, hlc⟩ := hrc.len
  have hnf := id hn
  unfold fits at hnf
  have hmof := id hmo
  unfold fits at hmof
  refine Fn.intro (n := 156) Try.func4 rfl rfl rfl ?_
  refine WR.seq ?_
  refine WR.region rfl ?_
  refine S.assignC rfl ?_
  refine WS.done ?_
  refine WR.seq ?_
  refine WR.seq ?_
  refine WR.region rfl ?_
  refine S.call ent7 rfl (l13_alive hS ) rfl ?_
  rintro _ w19 ⟨rfl, hS19⟩
  clear hS
  refine S.not rfl rfl ?_
  refine WS.done ?_
  refine WR.condF rfl ?_
  refine WR.skip ?_
  refine WR.seq ?_
  refine WR.seq ?_
  refine WR.region rfl ?_
  refine S.moveT rfl ?_
  refine S.call ent8 rfl (l13_great hS19 (by exact hCC) (by exact hmc)) rfl ?_
  rintro _ w22 ⟨rfl, hS22⟩
  clear hS19
  refine WS.done ?_
  refine WR.cond rfl (fun c22 => ?_) (fun c22 => ?_)
  ·
    skip
    refine WR.seq ?_
    refine WR.region rfl ?_
    refine S.assignC rfl ?_
    refine WS.done ?_
    refine WR.ret (ret1 rfl rfl ?_)
    first | exact ⟨rfl, hS22⟩ | exact ⟨rfl, hS22.weak (by repeat (first | assumption | exact Kn.le.refl _ | refine Kn.le.trans ?_ (by assumption)))⟩
  ·
    skip
    refine WR.skip ?_
    refine WR.seq ?_
    refine WR.region rfl ?_
    refine S.moveT rfl ?_
    refine S.moveT rfl ?_
    refine S.call ent9 rfl (h_new hS22 ) rfl ?_
    rintro v26 w26 hcs26
    clear hS22
    rcases hcs26 with ⟨hN26, rfl, hS26⟩ | ⟨hN26, bh26, bm26, rfl, hS26⟩
    ·
      skip
      refine S.moveT rfl ?_
      refine S.extract rfl rfl rfl ?_
      refine S.extract rfl rfl rfl ?_
      refine S.assignT rfl ?_
      refine S.assignT rfl ?_
      refine WS.done ?_
      refine WR.seq ?_
      refine WR.seq ?_
      refine WR.region rfl ?_
      refine S.moveT rfl ?_
      refine S.neq rfl rfl rfl ?_
      refine S.isTD (d := 30) rfl (by decide) ?_
      refine S.moveT rfl ?_
      refine S.off rfl ?_
      refine S.off rfl ?_
      refine S.pickTC rfl rfl ?_
      refine WS.done ?_
      refine WR.condT rfl ?_
      refine WR.seq ?_
      refine WR.region rfl ?_
      refine S.moveT rfl ?_
      refine S.eqlNilT Try.underlying25 rfl rfl rfl ?_
      refine S.assignT rfl ?_
      refine WS.done ?_
      refine WR.ret (ret1 rfl rfl ?_)
      first | exact ⟨rfl, hS26⟩ | exact ⟨rfl, hS26.weak (by repeat (first | assumption | exact Kn.le.refl _ | refine Kn.le.trans ?_ (by assumption)))⟩
    ·
      skip
      have hI26 : HI n mo [] := HI.new (by omega) (by omega) (by omega) (by omega)
      refine S.moveT rfl ?_
      refine S.extract rfl rfl rfl ?_
      refine S.extract rfl rfl rfl ?_
      refine S.assignT rfl ?_
      refine S.assignT rfl ?_
      refine WS.done ?_
      refine WR.seq ?_
      refine WR.seq ?_
      refine WR.region rfl ?_
      refine S.moveT rfl ?_
      refine S.neq rfl rfl rfl ?_
      refine S.isFD (d := 30) rfl (by decide) ?_
      refine S.moveT rfl ?_
      refine S.moveT rfl ?_
      refine S.eqlNil Try.underlying25 rfl rfl rfl ?_
      refine S.pickF rfl rfl ?_
      refine WS.done ?_
      refine WR.condF rfl ?_
      refine WR.skip ?_
      refine WR.seq ?_
      refine WR.region rfl ?_
      refine S.moveT rfl ?_
      refine S.assignT rfl ?_
      refine WS.done ?_
      refine WR.seq ?_
      refine WR.seq ?_
      obtain ⟨hc60, hc100⟩ := grt_false c22
      refine WR.region rfl ?_
      refine S.assignC rfl ?_
      refine WS.done ?_
      refine WR.block ?_
      refine WR.loopE (fun rq mm rr wr => ∃ (i : Nat) (n1 : Int) (m1 : List (Int × Int)) (R1 : Kn), mm = cs.length - i ∧ (i ≤ cs.length ∧ HI n1 mo m1 ∧ (∀ p ∈ m1, n1 < p.1) ∧ (∀ p ∈ m1, p.2 = p.1) ∧ R.le R1) ∧ rr 9 = .int .i64 n1 ∧ rr 10 = .int .i64 (i : Int) ∧ Agr [1, 2, 7] rr rq ∧ St wr R1 (blk bh26 (.cells (#[.int .i64 n1, .int .i64 mo, .map (some bm26)]) 51 (0, 0)) :: Mp Try.prog 2 bm26 (mE iE m1) :: L)) ⟨0, n, [], R, rfl, (by exact ⟨by omega, hI26, (fun _ h => by cases h), (fun _ h => by cases h), Kn.le.refl _⟩), rfl, rfl, ⟨rfl, rfl, rfl, trivial⟩, hS26⟩ ?_
      rintro mm rr w1001 ⟨i, n1, m1, R1, hm1001, ⟨hi, hI1, hst, hvk, hR1⟩, hr1001_9, hr1001_10, hA1001, hS1001⟩
      obtain ⟨rr, rfl⟩ := agrBack hA1001
      clear hA1001
      obtain ⟨rr, rfl⟩ := back2 (r := rr) hr1001_9 hr1001_10
      clear hr1001_9 hr1001_10
      have hCC := hCC.mono hR1
      have hrc := hCC.row
      have hn10 := hI1.n0
      have hn11 := hI1.n1
      have hm0 := hI1.mo0
      have hm1x := hI1.mo1
      refine WR.seq ?_
      refine WR.seq ?_
      skip
      refine WR.region rfl ?_
      refine S.moveT rfl ?_
      refine S.moveT rfl ?_
      refine S.lenSl Try.underlying22 rfl rfl ?_
      refine S.lss rfl rfl rfl ?_
      refine WS.done ?_
      refine WR.condD rfl (fun c41 => ?_) (fun c41 => ?_)
      ·
        skip
        refine WR.skip ?_
        refine WR.seq ?_
        refine WR.block ?_
        refine WR.seq ?_
        refine WR.region rfl ?_
        refine S.moveT rfl ?_
        refine S.moveT rfl ?_
        refine S.indexRo hrc Try.underlying22 ti34 rfl rfl (by omega) rfl ?_
        intro ad46 u46 hu46 hl46 hc46
        refine S.loadRoA hS1001 hc46 hl46 Try.underlying34 rfl ti34 rfl rfl ?_
        have hEu := hCC.each _ (List.mem_of_getElem? hu46)
        have hcu := hc100 _ (List.mem_of_getElem? hu46)
        obtain ⟨av, cv, hav, -⟩ := hEu.1.len
        refine S.as (d := 47) rfl (v' := .agg #[.int .i64 u46.what, .int .i64 u46.first, .slice av u46.items.length cv]) (by show Value.agg (encC u46).toArray = _; unfold encC; rw [hav]) ?_
        refine S.alloc hS1001 ti34 rfl rfl ?_
        intro b11 w11 hS11; clear hS1001
        refine S.storeB (i := 0) hS11 rfl ti34 rfl rfl rfl rfl rfl rfl rfl rfl ?_
        intro w2001 hS2001; clear hS11
        refine WS.done ?_
        refine WR.seq ?_
        refine WR.seq ?_
        refine WR.region rfl ?_
        refine S.fieldB Try.underlying34 rfl ti3 rfl rfl rfl rfl ?_
        refine S.loadB (i := 0) hS2001 rfl Try.underlying3 rfl rfl rfl rfl ?_
        refine S.neq rfl rfl rfl ?_
        refine S.moveT rfl ?_
        refine S.splitD (d := 51) rfl (fun c51 => ?_) (fun c51 => ?_)
        ·
          skip
          refine S.off rfl ?_
          refine S.off rfl ?_
          refine S.off rfl ?_
          refine S.pickTC rfl rfl ?_
          refine S.moveT rfl ?_
          refine S.off rfl ?_
          refine S.off rfl ?_
          refine S.off rfl ?_
          refine S.pickTC rfl rfl ?_
          refine WS.done ?_
          refine WR.condT rfl ?_
          refine WR.exit ?_
          refine WR.region rfl ?_
          refine S.moveT rfl ?_
          first
            | refine S.addN rfl rfl rfl (by omega) ?_
            | refine S.add rfl rfl rfl ?_
          refine S.assignT rfl ?_
          refine WS.done ?_
          exact ⟨_, (by omega), ⟨i + 1, _, _, _, rfl, (by first | exact ⟨by omega, hIo, hst2, hkeys.2.1, by repeat (first | assumption | exact Kn.le.refl _ | refine Kn.le.trans ?_ (by assumption))⟩ | exact ⟨by omega, hI1, hst, hvk, by repeat (first | assumption | exact Kn.le.refl _ | refine Kn.le.trans ?_ (by assumption))⟩), (by first | rfl | exact congrArg (Value.int .i64) (by have := hkeys.2.2; omega)), rfl, ⟨rfl, rfl, rfl, trivial⟩, hS2001.drop⟩⟩
        ·
          skip
          refine S.fieldB Try.underlying34 rfl ti2 rfl rfl rfl rfl ?_
          refine S.loadB (i := 0) hS2001 rfl Try.underlying2 rfl rfl rfl rfl ?_
          refine S.lss rfl rfl rfl ?_
          refine S.pickF rfl rfl ?_
          refine S.moveT rfl ?_
          refine S.splitD (d := 56) rfl (fun c56 => ?_) (fun c56 => ?_)
          ·
            skip
            refine S.off rfl ?_
            refine S.off rfl ?_
            refine S.off rfl ?_
            refine S.pickTC rfl rfl ?_
            refine WS.done ?_
            refine WR.condT rfl ?_
            refine WR.exit ?_
            refine WR.region rfl ?_
            refine S.moveT rfl ?_
            first
              | refine S.addN rfl rfl rfl (by omega) ?_
              | refine S.add rfl rfl rfl ?_
            refine S.assignT rfl ?_
            refine WS.done ?_
            exact ⟨_, (by omega), ⟨i + 1, _, _, _, rfl, (by first | exact ⟨by omega, hIo, hst2, hkeys.2.1, by repeat (first | assumption | exact Kn.le.refl _ | refine Kn.le.trans ?_ (by assumption))⟩ | exact ⟨by omega, hI1, hst, hvk, by repeat (first | assumption | exact Kn.le.refl _ | refine Kn.le.trans ?_ (by assumption))⟩), (by first | rfl | exact congrArg (Value.int .i64) (by have := hkeys.2.2; omega)), rfl, ⟨rfl, rfl, rfl, trivial⟩, hS2001.drop⟩⟩
          ·
            skip
            refine S.fieldB Try.underlying34 rfl ti2 rfl rfl rfl rfl ?_
            refine S.loadB (i := 0) hS2001 rfl Try.underlying2 rfl rfl rfl rfl ?_
            refine S.gtr rfl rfl rfl ?_
            refine S.pickF rfl rfl ?_
            refine WS.done ?_
            refine WR.condD rfl (fun c60 => ?_) (fun c60 => ?_)
            ·
              skip
              refine WR.exit ?_
              refine WR.region rfl ?_
              refine S.moveT rfl ?_
              first
                | refine S.addN rfl rfl rfl (by omega) ?_
                | refine S.add rfl rfl rfl ?_
              refine S.assignT rfl ?_
              refine WS.done ?_
              exact ⟨_, (by omega), ⟨i + 1, _, _, _, rfl, (by first | exact ⟨by omega, hIo, hst2, hkeys.2.1, by repeat (first | assumption | exact Kn.le.refl _ | refine Kn.le.trans ?_ (by assumption))⟩ | exact ⟨by omega, hI1, hst, hvk, by repeat (first | assumption | exact Kn.le.refl _ | refine Kn.le.trans ?_ (by assumption))⟩), (by first | rfl | exact congrArg (Value.int .i64) (by have := hkeys.2.2; omega)), rfl, ⟨rfl, rfl, rfl, trivial⟩, hS2001.drop⟩⟩
            ·
              skip
              refine WR.skip ?_
              refine WR.seq ?_
              refine WR.region rfl ?_
              first
                | refine S.buildRow (vs := []) hS2001 Try.underlying32 ti2 rfl rfl rfl rfl rfl rfl rfl ?_
                | refine S.buildRow hS2001 Try.underlying32 ti2 rfl rfl rfl rfl rfl rfl rfl ?_
              intro b61 w61 hS61; clear hS2001
              have hSo := hS61.ownRow (enc := encI .i64) (n := 1) (seqL u46.first 0) rfl (fun _ h => by cases h) (by rw [seqL_len]; decide)
              refine S.assignT rfl ?_
              refine WS.done ?_
              refine WR.seq ?_
              refine WR.seq ?_
              refine WR.region rfl ?_
              refine S.assignC rfl ?_
              refine WS.done ?_
              refine WR.block ?_
              refine WR.loopE (fun rq mm rr wr => ∃ (k : Nat) (v12 : Value), mm = u46.items.length - k ∧ (k ≤ u46.items.length) ∧ rr 12 = v12 ∧ rr 13 = .int .i64 (k : Int) ∧ Agr [1, 2, 7, 9, 10, 11] rr rq ∧ St wr R1 (Ow 2 (encI .i64) 1 v12 (seqL u46.first k) :: blk b11 (.cells (#[.int .i64 u46.what, .int .i64 u46.first, .slice av u46.items.length cv]) 34 (0, 0)) :: blk bh26 (.cells (#[.int .i64 n1, .int .i64 mo, .map (some bm26)]) 51 (0, 0)) :: Mp Try.prog 2 bm26 (mE iE m1) :: L)) ⟨0, _, rfl, (by omega), rfl, rfl, ⟨rfl, rfl, rfl, rfl, rfl, rfl, trivial⟩, hSo⟩ ?_
              rintro mm rr w1002 ⟨k, v12, hm1002, hk, hr1002_12, hr1002_13, hA1002, hS1002⟩
              obtain ⟨rr, rfl⟩ := agrBack hA1002
              clear hA1002
              obtain ⟨rr, rfl⟩ := back2 (r := rr) hr1002_12 hr1002_13
              clear hr1002_12 hr1002_13
              refine WR.seq ?_
              refine WR.seq ?_
              refine WR.region rfl ?_
              refine S.moveT rfl ?_
              refine S.fieldB Try.underlying34 rfl ti32 rfl rfl rfl rfl ?_
              refine S.loadB (i := 1) hS1002 rfl Try.underlying32 rfl rfl rfl rfl ?_
              refine S.lenSl Try.underlying32 rfl rfl ?_
              refine S.lss rfl rfl rfl ?_
              refine WS.done ?_
              refine WR.condD rfl (fun c66 => ?_) (fun c66 => ?_)
              ·
                skip
                refine WR.skip ?_
                refine WR.seq ?_
                refine WR.block ?_
                refine WR.region rfl ?_
                refine S.moveT rfl ?_
                refine S.fieldB Try.underlying34 rfl ti2 rfl rfl rfl rfl ?_
                refine S.loadB (i := 1) hS1002 rfl Try.underlying2 rfl rfl rfl rfl ?_
                refine S.moveT rfl ?_
                first
                  | refine S.addN rfl rfl rfl (by omega) ?_
                  | refine S.add rfl rfl rfl ?_
                first
                  | refine S.buildRow (vs := [.int _ _]) hS1002 Try.underlying32 ti2 rfl rfl rfl rfl rfl rfl rfl ?_
                  | refine S.buildRow hS1002 Try.underlying32 ti2 rfl rfl rfl rfl rfl rfl rfl ?_
                intro b74 w74 hS74; clear hS1002
                refine S.appendTmp (i := 0) [u46.first + (k : Int)] hS74 rfl rfl (fun _ _ => rfl) Try.underlying32 ti2 rfl rfl rfl rfl encI_one (by rw [seqL_len, List.length_singleton]; omega) rfl ?_
                intro v75 w75 hS75; clear hS74
                refine S.assignT rfl ?_
                refine WS.done ?_
                refine WR.region rfl ?_
                refine S.moveT rfl ?_
                first
                  | refine S.addN rfl rfl rfl (by omega) ?_
                  | refine S.add rfl rfl rfl ?_
                refine S.assignT rfl ?_
                refine WS.done ?_
                exact ⟨_, (by omega), ⟨k + 1, v75, rfl, (by omega), rfl, rfl, ⟨rfl, rfl, rfl, rfl, rfl, rfl, trivial⟩, (by rw [seqL_succ]; exact hS75)⟩⟩
              ·
                skip
                refine WR.exit ?_
                refine WR.seq ?_
                obtain rfl : k = u46.items.length := by omega
                refine WR.region rfl ?_
                refine S.moveT rfl ?_
                refine S.fieldB Try.underlying34 rfl ti2 rfl rfl rfl rfl ?_
                refine S.loadB (i := 1) hS1002 rfl Try.underlying2 rfl rfl rfl rfl ?_
                refine S.moveT rfl ?_
                obtain ⟨R80, hR80, hro80, hSf80⟩ := hS1002.freeze (fun _ _ => rfl)
                obtain ⟨fa80, fc80, rfl, hfl80⟩ := hro80.len
                replace hrc := hrc.mono hR80
                refine S.call ent12 rfl (h_offer (((hSf80.at_ (i := 0) rfl).at_ (i := 2) rfl).at_ (i := 2) rfl) (by exact hI1) (by exact hEu.2.2.1) (by exact hro80) (by exact seqL_fits (by omega) (by omega)) (by rw [seqL_len]; omega)) rfl ?_
                rintro _ w81 ⟨v81, rfl, hS81⟩
                clear hSf80
                refine S.moveT rfl ?_
                refine S.extract rfl rfl rfl ?_
                obtain ⟨R82, hR82, hro82, hSf82⟩ := hS81.freeze (fun _ _ => rfl)
                obtain ⟨fa82, fc82, rfl, hfl82⟩ := hro82.len
                replace hrc := hrc.mono hR82
                replace hro80 := hro80.mono hR82
                refine S.extract rfl rfl rfl ?_
                refine S.assignT rfl ?_
                refine S.assignT rfl ?_
                refine WS.done ?_
                refine WR.seq ?_
                refine WR.seq ?_
                have hof := hI1.offer (first := u46.first) (xs := seqL u46.first u46.items.length) (by rw [seqL_len]; omega) (seqL_fits (by omega) (by omega))
                have hsl := seqL_len u46.first u46.items.length
                have hIo := hof.1
                have hst2 := offer_strict (first := u46.first) (xs := seqL u46.first u46.items.length) hI1 hst (by rw [seqL_len]; omega) (seqL_fits (by omega) (by omega))
                have hkeys := offer_keys (mo := mo) (first := u46.first) hI1 hvk (xs := seqL u46.first u46.items.length) (fun j hj => seqL_get (by rw [seqL_len] at hj; exact hj)) (by rw [seqL_len]; omega) (seqL_fits (by omega) (by omega))
                have hnx := offer_next (first := u46.first) (xs := seqL u46.first u46.items.length) hI1 (by rw [seqL_len]; omega) (seqL_fits (by omega) (by omega))
                refine WR.region rfl ?_
                refine S.moveT rfl ?_
                refine S.lss rfl rfl rfl ?_
                refine S.isFD (d := 85) rfl (by omega) ?_
                refine S.moveT rfl ?_
                refine S.moveT rfl ?_
                refine S.moveT rfl ?_
                refine S.lenSl Try.underlying32 rfl rfl ?_
                refine S.gtr rfl rfl rfl ?_
                refine S.isFD (d := 90) rfl (by omega) ?_
                refine S.pickF rfl rfl ?_
                refine WS.done ?_
                refine WR.condF rfl ?_
                refine WR.skip ?_
                refine WR.seq ?_
                refine WR.seq ?_
                refine WR.region rfl ?_
                refine S.assignC rfl ?_
                refine WS.done ?_
                refine WR.block ?_
                refine WR.loopE (fun rq mm rr wr => ∃ (q : Nat), mm = (offer n1 mo m1 u46.first (seqL u46.first u46.items.length)).1.length - q ∧ (q ≤ (offer n1 mo m1 u46.first (seqL u46.first u46.items.length)).1.length) ∧ rr 9 = .int .i64 (n1 + (q : Int)) ∧ rr 16 = .int .i64 (q : Int) ∧ Agr [1, 2, 7, 10, 14] rr rq ∧ St wr R82 (blk b11 (.cells (#[.int .i64 u46.what, .int .i64 u46.first, .slice av u46.items.length cv]) 34 (0, 0)) :: blk bh26 (.cells (#[.int .i64 (offer n1 mo m1 u46.first (seqL u46.first u46.items.length)).2.2.1, .int .i64 mo, .map (some bm26)]) 51 (0, 0)) :: Mp Try.prog 2 bm26 (mE iE (offer n1 mo m1 u46.first (seqL u46.first u46.items.length)).2.2.2) :: L)) ⟨0, rfl, (by omega), (by exact congrArg (Value.int .i64) (by omega)), rfl, ⟨rfl, rfl, rfl, rfl, rfl, trivial⟩, (((hSf82.at_ (i := 1) rfl).at_ (i := 1) rfl).at_ (i := 2) rfl)⟩ ?_
                rintro mm rr w1003 ⟨q, hm1003, hq, hr1003_9, hr1003_16, hA1003, hS1003⟩
                obtain ⟨rr, rfl⟩ := agrBack hA1003
                clear hA1003
                obtain ⟨rr, rfl⟩ := back2 (r := rr) hr1003_9 hr1003_16
                clear hr1003_9 hr1003_16
                have hol2 := hof.2.2.1
                refine WR.seq ?_
                refine WR.seq ?_
                refine WR.region rfl ?_
                refine S.moveT rfl ?_
                refine S.moveT rfl ?_
                refine S.lenSl Try.underlying32 rfl rfl ?_
                refine S.lss rfl rfl rfl ?_
                refine WS.done ?_
                refine WR.condD rfl (fun c95 => ?_) (fun c95 => ?_)
                ·
                  skip
                  refine WR.skip ?_
                  refine WR.seq ?_
                  refine WR.block ?_
                  refine WR.seq ?_
                  refine WR.seq ?_
                  refine WR.region rfl ?_
                  refine S.moveT rfl ?_
                  refine S.moveT rfl ?_
                  refine S.indexRo hro82 Try.underlying32 ti2 rfl rfl (by omega) rfl ?_
                  intro ad100 u100 hu100 hl100 hc100
                  refine S.loadRo hS1003 hc100 rfl Try.underlying2 rfl rfl rfl ?_
                  refine S.moveT rfl ?_
                  refine S.neq rfl rfl rfl ?_
                  refine S.isFD (d := 103) rfl (by have := hkeys.1 q u100 (getI hu100); omega) ?_
                  refine WS.done ?_
                  refine WR.condF rfl ?_
                  refine WR.skip ?_
                  refine WR.region rfl ?_
                  refine S.moveT rfl ?_
                  first
                    | refine S.addN rfl rfl rfl (by omega) ?_
                    | refine S.add rfl rfl rfl ?_
                  refine S.assignT rfl ?_
                  refine WS.done ?_
                  refine WR.region rfl ?_
                  refine S.moveT rfl ?_
                  first
                    | refine S.addN rfl rfl rfl (by omega) ?_
                    | refine S.add rfl rfl rfl ?_
                  refine S.assignT rfl ?_
                  refine WS.done ?_
                  exact ⟨_, (by omega), ⟨q + 1, rfl, (by omega), (by exact congrArg (Value.int .i64) (by omega)), rfl, ⟨rfl, rfl, rfl, rfl, rfl, trivial⟩, hS1003⟩⟩
                ·
                  skip
                  refine WR.exit ?_
                  refine WR.seq ?_
                  obtain rfl : q = (offer n1 mo m1 u46.first (seqL u46.first u46.items.length)).1.length := by omega
                  refine WR.region rfl ?_
                  refine S.moveT rfl ?_
                  refine S.call ent18 rfl (h_waiting (((hS1003.at_ (i := 0) rfl).at_ (i := 2) rfl).at_ (i := 2) rfl) (by have := hIo.len2; omega)) rfl ?_
                  rintro v107 w107 hS107
                  clear hS1003
                  obtain ⟨R107, hR107, hro107, hSf107⟩ := hS107.freeze (fun _ _ => rfl)
                  obtain ⟨fa107, fc107, rfl, hfl107⟩ := hro107.len
                  replace hrc := hrc.mono hR107
                  replace hro80 := hro80.mono hR107
                  replace hro82 := hro82.mono hR107
                  refine S.assignT rfl ?_
                  refine WS.done ?_
                  refine WR.seq ?_
                  refine WR.seq ?_
                  have hlm2 := strict_len hIo hst2
                  have hml : ((offer n1 mo m1 u46.first (seqL u46.first u46.items.length)).2.2.2.map (·.1)).length = (offer n1 mo m1 u46.first (seqL u46.first u46.items.length)).2.2.2.length := List.length_map ..
                  refine WR.region rfl ?_
                  refine S.moveT rfl ?_
                  refine S.call ent17 rfl (h_next hSf107 ) rfl ?_
                  rintro _ w109 ⟨rfl, hS109⟩
                  clear hSf107
                  refine S.moveT rfl ?_
                  refine S.neq rfl rfl rfl ?_
                  refine S.isFD (d := 111) rfl (by have := hkeys.2.2; simp only [ne_eq, Decidable.not_not]; omega) ?_
                  refine S.moveT rfl ?_
                  refine S.moveT rfl ?_
                  refine S.lenSl Try.underlying32 rfl rfl ?_
                  refine S.moveT rfl ?_
                  refine S.geq rfl rfl rfl ?_
                  refine S.isFD (d := 116) rfl (by omega) ?_
                  refine S.pickF rfl rfl ?_
                  refine WS.done ?_
                  refine WR.condF rfl ?_
                  refine WR.skip ?_
                  refine WR.seq ?_
                  refine WR.region rfl ?_
                  refine S.assignC rfl ?_
                  refine WS.done ?_
                  refine WR.block ?_
                  refine WR.loopE (fun rq mm rr wr => ∃ (z : Nat), mm = (offer n1 mo m1 u46.first (seqL u46.first u46.items.length)).2.2.2.length - z ∧ (z ≤ (offer n1 mo m1 u46.first (seqL u46.first u46.items.length)).2.2.2.length) ∧ rr 18 = .int .i64 (z : Int) ∧ Agr [1, 2, 7, 9, 10, 17] rr rq ∧ St wr R107 (blk b11 (.cells (#[.int .i64 u46.what, .int .i64 u46.first, .slice av u46.items.length cv]) 34 (0, 0)) :: blk bh26 (.cells (#[.int .i64 (offer n1 mo m1 u46.first (seqL u46.first u46.items.length)).2.2.1, .int .i64 mo, .map (some bm26)]) 51 (0, 0)) :: Mp Try.prog 2 bm26 (mE iE (offer n1 mo m1 u46.first (seqL u46.first u46.items.length)).2.2.2) :: L)) ⟨0, rfl, (by omega), rfl, ⟨rfl, rfl, rfl, rfl, rfl, rfl, trivial⟩, (((hS109.at_ (i := 1) rfl).at_ (i := 1) rfl).at_ (i := 2) rfl)⟩ ?_
                  rintro mm rr w1004 ⟨z, hm1004, hz, hr1004_18, hA1004, hS1004⟩
                  obtain ⟨rr, rfl⟩ := agrBack hA1004
                  clear hA1004
                  obtain ⟨rr, rfl⟩ := back1 (r := rr) hr1004_18
                  clear hr1004_18
                  refine WR.seq ?_
                  refine WR.seq ?_
                  refine WR.region rfl ?_
                  refine S.moveT rfl ?_
                  refine S.moveT rfl ?_
                  refine S.lenSl Try.underlying32 rfl rfl ?_
                  refine S.lss rfl rfl rfl ?_
                  refine WS.done ?_
                  refine WR.condD rfl (fun c121 => ?_) (fun c121 => ?_)
                  ·
                    skip
                    refine WR.skip ?_
                    refine WR.seq ?_
                    refine WR.block ?_
                    refine WR.seq ?_
                    refine WR.regionQ mixed hS1004 (by kernel_rfl) rfl ?_
                    refine Q.moveT rfl ?_
                    refine Q.moveT rfl ?_
                    refine Q.indexRo hro107 Try.underlying32 ti2 rfl rfl (by omega) rfl ?_
                    intro ad126 u126 hu126 hl126 hc126
                    refine Q.loadRo hc126 rfl Try.underlying2 rfl rfl rfl ?_
                    refine Q.moveT rfl ?_
                    refine Q.leq rfl rfl rfl ?_
                    refine Q.isFD (d := 129) rfl (by have := keys_in hst2 hIo (getI hu126); have := hkeys.2.2; omega) ?_
                    refine Q.moveT rfl ?_
                    refine Q.moveT rfl ?_
                    refine Q.moveT rfl ?_
                    refine Q.indexRo hro107 Try.underlying32 ti2 rfl rfl (by omega) rfl ?_
                    intro ad133 u133 hu133 hl133 hc133
                    refine Q.loadRo hc133 rfl Try.underlying2 rfl rfl rfl ?_
                    refine Q.moveT rfl ?_
                    refine Q.moveT rfl ?_
                    first
                      | refine Q.addN rfl rfl rfl (by omega) ?_
                      | refine Q.add rfl rfl rfl ?_
                    refine Q.geq rfl rfl rfl ?_
                    refine Q.isFD (d := 138) rfl (by have := keys_in hst2 hIo (getI hu133); have := hkeys.2.2; omega) ?_
                    refine Q.pickF rfl rfl ?_
                    refine Q.moveT rfl ?_
                    refine Q.moveT rfl ?_
                    refine Q.gtr rfl rfl rfl ?_
                    refine Q.moveT rfl ?_
                    refine Q.splitD (d := 143) rfl (fun c143 => ?_) (fun c143 => ?_)
                    ·
                      skip
                      refine Q.moveT rfl ?_
                      refine Q.moveT rfl ?_
                      refine Q.indexRo hro107 Try.underlying32 ti2 rfl rfl (by omega) rfl ?_
                      intro ad146 u146 hu146 hl146 hc146
                      refine Q.loadRo hc146 rfl Try.underlying2 rfl rfl rfl ?_
                      refine Q.moveT rfl ?_
                      refine Q.moveT rfl ?_
                      first
                        | refine Q.subN rfl rfl rfl (by omega) ?_
                        | refine Q.sub rfl rfl rfl ?_
                      refine Q.indexRo hro107 Try.underlying32 ti2 rfl rfl (by omega) rfl ?_
                      intro ad151 u151 hu151 hl151 hc151
                      refine Q.loadRo hc151 rfl Try.underlying2 rfl rfl rfl ?_
                      refine Q.leq rfl rfl rfl ?_
                      refine Q.isFD (d := 153) rfl (by have := keys_rise hIo (show z - 1 < z by omega) (by rw [show ((z : Int) - 1).toNat = z - 1 by omega] at hu151; exact hu151) (getI hu146); omega) ?_
                      refine Q.pickT rfl rfl ?_
                      refine Q.pickF rfl rfl ?_
                      refine WQ.done ?_
                      intro w5002 hS5002
                      clear hS1004
                      refine WR.condF rfl ?_
                      refine WR.skip ?_
                      refine WR.region rfl ?_
                      refine S.moveT rfl ?_
                      first
                        | refine S.addN rfl rfl rfl (by omega) ?_
                        | refine S.add rfl rfl rfl ?_
                      refine S.assignT rfl ?_
                      refine WS.done ?_
                      exact ⟨_, (by omega), ⟨z + 1, rfl, (by omega), rfl, ⟨rfl, rfl, rfl, rfl, rfl, rfl, trivial⟩, hS5002⟩⟩
                    ·
                      skip
                      refine Q.off rfl ?_
                      refine Q.off rfl ?_
                      refine Q.off rfl ?_
                      refine Q.off rfl ?_
                      refine Q.off rfl ?_
                      refine Q.off rfl ?_
                      refine Q.off rfl ?_
                      refine Q.off rfl ?_
                      refine Q.off rfl ?_
                      refine Q.off rfl ?_
                      refine Q.pickFC rfl rfl ?_
                      refine Q.pickF rfl rfl ?_
                      refine WQ.done ?_
                      intro w5003 hS5003
                      clear hS1004
                      refine WR.condF rfl ?_
                      refine WR.skip ?_
                      refine WR.region rfl ?_
                      refine S.moveT rfl ?_
                      first
                        | refine S.addN rfl rfl rfl (by omega) ?_
                        | refine S.add rfl rfl rfl ?_
                      refine S.assignT rfl ?_
                      refine WS.done ?_
                      exact ⟨_, (by omega), ⟨z + 1, rfl, (by omega), rfl, ⟨rfl, rfl, rfl, rfl, rfl, rfl, trivial⟩, hS5003⟩⟩
                  ·
                    skip
                    refine WR.exit ?_
                    refine WR.region rfl ?_
                    refine S.moveT rfl ?_
                    first
                      | refine S.addN rfl rfl rfl (by omega) ?_
                      | refine S.add rfl rfl rfl ?_
                    refine S.assignT rfl ?_
                    refine WS.done ?_
                    exact ⟨_, (by omega), ⟨i + 1, _, _, _, rfl, (by first | exact ⟨by omega, hIo, hst2, hkeys.2.1, by repeat (first | assumption | exact Kn.le.refl _ | refine Kn.le.trans ?_ (by assumption))⟩ | exact ⟨by omega, hI1, hst, hvk, by repeat (first | assumption | exact Kn.le.refl _ | refine Kn.le.trans ?_ (by assumption))⟩), (by first | rfl | exact congrArg (Value.int .i64) (by have := hkeys.2.2; omega)), rfl, ⟨rfl, rfl, rfl, trivial⟩, hS1004.drop⟩⟩
      ·
        skip
        refine WR.exit ?_
        refine WR.seq ?_
        refine WR.region rfl ?_
        refine S.assignC rfl ?_
        refine WS.done ?_
        refine WR.ret (ret1 rfl rfl ?_)
        first | exact ⟨rfl, hS1001⟩ | exact ⟨rfl, hS1001.drop.drop.weak (by repeat (first | assumption | exact Kn.le.refl _ | refine Kn.le.trans ?_ (by assumption)))⟩


end Go.Proofs.Ytcbfmbcmokafpaa.B

import Derived.Test.YtcbfmbcmokafpaaWalkD
namespace Go.Proofs.Ytcbfmbcmokafpaa.B
open Go.Proofs Go.RowKit
set_option linter.unusedVariables false
set_option linter.unusedSimpArgs false
theorem map_pair {m : List (Int × Int)} {i : Nat} {a b : Int} (ha : (m.map (·.1))[i]? = some a) (hb : (m.map (·.2))[i]? = some b) {h : i < m.length} : m[i] = (a, b) := by
  rw [List.getElem?_map, List.getElem?_eq_getElem h] at ha hb
  simp at ha hb
  exact Prod.ext ha hb
theorem HI.take {n mo : Int} {m : List (Int × Int)} (h : HI n mo m) (i : Nat) : HI n mo (m.take i) :=
  ⟨h.n0, h.n1, h.mo0, h.mo1, h.rise.sublist (List.take_sublist _ _), fun p hp => h.lo p (List.mem_of_mem_take hp), fun p hp => h.hi p (List.mem_of_mem_take hp), fun p hp => h.top p (List.mem_of_mem_take hp), fun p hp => h.vals p (List.mem_of_mem_take hp)⟩
theorem rel_strict {n : Int} {m : List (Int × Int)} (h : ∀ p ∈ m, n < p.1) : rel n m = ([], n, m) :=
  rel_miss (fun p r e => by have := h p (by rw [e]; exact List.mem_cons_self ..); omega)
theorem ains_last {x : Int × Int} : ∀ m : List (Int × Int), (∀ p ∈ m, p.1 < x.1) → ains x m = m ++ [x]
  | [], _ => rfl
  | y :: r, h => by
    have := h y (List.mem_cons_self ..)
    unfold ains
    rw [if_neg (by omega), ains_last r (fun p hp => h p (List.mem_cons_of_mem _ hp))]; rfl
theorem offer_again {n mo k v : Int} {m : List (Int × Int)} (h : HI n mo m) (hs : ∀ p ∈ m, n < p.1) {i : Nat} (hi : i < m.length) (hm : m[i] = (k, v)) (hk : k ≤ 2199023255552) : offer n mo (m.take i) k [v] = ([], 0, n, m.take (i + 1)) := by
  have hmem : (k, v) ∈ m := by rw [← hm]; exact List.getElem_mem _
  have h1 := hs _ hmem
  have h2 := h.hi _ hmem
  have h0 := h.n0
  simp only at h1 h2
  have hlt : ∀ p ∈ m.take i, p.1 < k := by
    intro p hp
    obtain ⟨j, hj⟩ := List.mem_iff_getElem?.1 hp
    rw [List.getElem?_take] at hj
    split at hj
    · rename_i hji
      obtain ⟨hjl, hje⟩ := List.getElem?_eq_some_iff.1 hj
      have := List.pairwise_iff_getElem.1 h.rise j i hjl hi hji
      rw [hje, hm] at this
      exact this
    · cases hj
  have hg : aget (m.take i) k = none := aget_none.2 (fun p hp => by have := hlt p hp; omega)
  have hT : offT n mo (m.take i) k [v] 1 = (m.take (i + 1), 0) := by
    show offStep n mo (m.take i, 0) (k + (0 : Nat)) v = _
    rw [show k + ((0 : Nat) : Int) = k by omega, offStep_new (fun h => by
      rcases h with h | h
      · omega
      · simp only [hg] at h; cases h) (by omega)]
    rw [aput_new hg, ains_last _ hlt, List.take_add_one, List.getElem?_eq_getElem hi, hm]; rfl
  rw [offer_in (by omega)]
  rw [show [v].length = 1 from rfl, hT]
  rw [rel_strict (fun p hp => hs p (List.mem_of_mem_take hp))]
theorem offer_less {n mo : Int} (h : 1 ≤ n ∧ n ≤ 2199023255553) : offer n mo [] (n - 1) [7] = ([], 0, n, []) := by
  by_cases q : n - 1 < 0 ∨ 2199023255552 < n - 1
  · omega
  · rw [offer_in q]
    have hT : offT n mo [] (n - 1) [7] 1 = ([], 0) := by
      show offStep n mo ([], 0) (n - 1 + (0 : Nat)) 7 = _
      exact offStep_old (.inl (by omega))
    rw [show [(7 : Int)].length = 1 from rfl, hT]; rfl
theorem offer_strict {n mo first : Int} {m : List (Int × Int)} {xs : List Int} (h : HI n mo m) (hs : ∀ p ∈ m, n < p.1) (hl : xs.length ≤ 1000000) (hx : ∀ x ∈ xs, fits x) : ∀ p ∈ (offer n mo m first xs).2.2.2, (offer n mo m first xs).2.2.1 < p.1 := by
  by_cases q : first < 0 ∨ 2199023255552 < first
  · rw [offer_out q]; exact hs
  · rw [offer_in q]
    exact ((h.offT (first := first) (by omega) hl hx xs.length (Nat.le_refl _)).1.rel).2.1
theorem offer_next {n mo first : Int} {m : List (Int × Int)} {xs : List Int} (h : HI n mo m) (hl : xs.length ≤ 1000000) (hx : ∀ x ∈ xs, fits x) : (offer n mo m first xs).2.2.1 ≤ n + 256 := by
  by_cases q : first < 0 ∨ 2199023255552 < first
  · rw [offer_out q]; simp only; omega
  · rw [offer_in q]
    have h1 := (h.offT (first := first) (by omega) hl hx xs.length (Nat.le_refl _)).1
    have h2 := h1.rel
    have := h1.len2
    simp only; omega
set_option maxRecDepth 100000 in
set_option maxHeartbeats 4000000 in
theorem law_HoldAgain {w : World} {R : Kn} {L : List HP}  (hS : St w R (L)) {n mo : Int} (hn : fits n) (hmo : fits mo) {vc : Value} {cs : List CallC} (hCC : RoC R vc cs) (hmc : cs.length ≤ 140737488355328) :
    Fn Try.prog 6 #[.int .i64 n, .int .i64 mo, vc] w (fun v w' => v = .bool true ∧ St w' R L) := by
  have hrc := hCC.row
  obtain ⟨ac, cc, rfl, hlc⟩ := hrc.len
  have hnf := id hn
  unfold fits at hnf
  have hmof := id hmo
  unfold fits at hmof
  refine Fn.intro (n := 145) Try.func6 rfl rfl rfl ?_
  refine WR.seq ?_
  refine WR.region rfl ?_
  refine S.assignC rfl ?_
  refine WS.done ?_
  refine WR.seq ?_
  refine WR.seq ?_
  refine WR.region rfl ?_
  refine S.call ent7 rfl (l13_alive hS ) rfl ?_
  rintro _ w18 ⟨rfl, hS18⟩
  clear hS
  refine S.not rfl rfl ?_
  refine WS.done ?_
  refine WR.condF rfl ?_
  refine WR.skip ?_
  refine WR.seq ?_
  refine WR.seq ?_
  refine WR.region rfl ?_
  refine S.moveT rfl ?_
  refine S.call ent8 rfl (l13_great hS18 (by exact hCC) (by exact hmc)) rfl ?_
  rintro _ w21 ⟨rfl, hS21⟩
  clear hS18
  refine WS.done ?_
  refine WR.cond rfl (fun c21 => ?_) (fun c21 => ?_)
  ·
    skip
    refine WR.seq ?_
    refine WR.region rfl ?_
    refine S.assignC rfl ?_
    refine WS.done ?_
    refine WR.ret (ret1 rfl rfl ?_)
    first | exact ⟨rfl, hS21⟩ | exact ⟨rfl, hS21.weak (by repeat (first | assumption | exact Kn.le.refl _ | refine Kn.le.trans ?_ (by assumption)))⟩
  ·
    skip
    refine WR.skip ?_
    refine WR.seq ?_
    refine WR.region rfl ?_
    refine S.moveT rfl ?_
    refine S.moveT rfl ?_
    refine S.call ent9 rfl (h_new hS21 ) rfl ?_
    rintro v25 w25 hcs25
    clear hS21
    rcases hcs25 with ⟨hN25, rfl, hS25⟩ | ⟨hN25, bh25, bm25, rfl, hS25⟩
    ·
      skip
      refine S.moveT rfl ?_
      refine S.extract rfl rfl rfl ?_
      refine S.extract rfl rfl rfl ?_
      refine S.assignT rfl ?_
      refine S.assignT rfl ?_
      refine WS.done ?_
      refine WR.seq ?_
      refine WR.seq ?_
      refine WR.region rfl ?_
      refine S.moveT rfl ?_
      refine S.neq rfl rfl rfl ?_
      refine S.isTD (d := 29) rfl (by decide) ?_
      refine S.moveT rfl ?_
      refine S.off rfl ?_
      refine S.off rfl ?_
      refine S.pickTC rfl rfl ?_
      refine WS.done ?_
      refine WR.condT rfl ?_
      refine WR.seq ?_
      refine WR.region rfl ?_
      refine S.moveT rfl ?_
      refine S.eqlNilT Try.underlying25 rfl rfl rfl ?_
      refine S.assignT rfl ?_
      refine WS.done ?_
      refine WR.ret (ret1 rfl rfl ?_)
      first | exact ⟨rfl, hS25⟩ | exact ⟨rfl, hS25.weak (by repeat (first | assumption | exact Kn.le.refl _ | refine Kn.le.trans ?_ (by assumption)))⟩
    ·
      skip
      have hI25 : HI n mo [] := HI.new (by omega) (by omega) (by omega) (by omega)
      refine S.moveT rfl ?_
      refine S.extract rfl rfl rfl ?_
      refine S.extract rfl rfl rfl ?_
      refine S.assignT rfl ?_
      refine S.assignT rfl ?_
      refine WS.done ?_
      refine WR.seq ?_
      refine WR.seq ?_
      refine WR.region rfl ?_
      refine S.moveT rfl ?_
      refine S.neq rfl rfl rfl ?_
      refine S.isFD (d := 29) rfl (by decide) ?_
      refine S.moveT rfl ?_
      refine S.moveT rfl ?_
      refine S.eqlNil Try.underlying25 rfl rfl rfl ?_
      refine S.pickF rfl rfl ?_
      refine WS.done ?_
      refine WR.condF rfl ?_
      refine WR.skip ?_
      refine WR.seq ?_
      refine WR.seq ?_
      obtain ⟨hc60, hc100⟩ := grt_false c21
      refine WR.region rfl ?_
      refine S.assignC rfl ?_
      refine WS.done ?_
      refine WR.block ?_
      refine WR.loopE (fun rq mm rr wr => ∃ (i : Nat) (n1 : Int) (m1 : List (Int × Int)) (R1 : Kn), mm = cs.length - i ∧ (i ≤ cs.length ∧ HI n1 mo m1 ∧ (∀ p ∈ m1, n1 < p.1) ∧ n1 ≤ 1099511627776 + 256 * i ∧ R.le R1) ∧ rr 9 = .int .i64 (i : Int) ∧ Agr [2, 7] rr rq ∧ St wr R1 (blk bh25 (.cells (#[.int .i64 n1, .int .i64 mo, .map (some bm25)]) 51 (0, 0)) :: Mp Try.prog 2 bm25 (mE iE m1) :: L)) ⟨0, n, [], R, rfl, (by exact ⟨by omega, hI25, (fun _ h => by cases h), by omega, Kn.le.refl _⟩), rfl, ⟨rfl, rfl, trivial⟩, hS25⟩ ?_
      rintro mm rr w1001 ⟨i, n1, m1, R1, hm1001, ⟨hi, hI1, hst, hnb, hR1⟩, hr1001_9, hA1001, hS1001⟩
      obtain ⟨rr, rfl⟩ := agrBack hA1001
      clear hA1001
      obtain ⟨rr, rfl⟩ := back1 (r := rr) hr1001_9
      clear hr1001_9
      have hCC := hCC.mono hR1
      have hrc := hCC.row
      refine WR.seq ?_
      refine WR.seq ?_
      refine WR.region rfl ?_
      refine S.moveT rfl ?_
      refine S.moveT rfl ?_
      refine S.lenSl Try.underlying22 rfl rfl ?_
      refine S.lss rfl rfl rfl ?_
      refine WS.done ?_
      refine WR.condD rfl (fun c39 => ?_) (fun c39 => ?_)
      ·
        skip
        refine WR.skip ?_
        refine WR.seq ?_
        refine WR.block ?_
        refine WR.seq ?_
        refine WR.region rfl ?_
        refine S.moveT rfl ?_
        refine S.moveT rfl ?_
        refine S.indexRo hrc Try.underlying22 ti34 rfl rfl (by omega) rfl ?_
        intro ad44 u44 hu44 hl44 hc44
        refine S.fieldElt Try.underlying34 rfl ti3 rfl rfl rfl ?_
        refine S.loadRoF hS1001 hc44 rfl Try.underlying3 rfl rfl rfl ?_
        refine S.eql rfl rfl rfl ?_
        refine WS.done ?_
        refine WR.condD rfl (fun c47 => ?_) (fun c47 => ?_)
        ·
          skip
          refine WR.regionW (fun j => Nat.beq j 11) 12 rfl mixed hS1001 ?_
          intro w6001 hS6001; clear hS1001; have hC := hS6001
          refine WA.take (fuel := 11) 0 rfl (by kernel_rfl) (by kernel_rfl) (by kernel_rfl) (by kernel_rfl) rfl rfl hC ?_
          refine Q.moveT rfl ?_
          refine WQ.done ?_
          refine WA.takeP (fuel := 10) 1 rfl (by kernel_rfl) (by kernel_rfl) (by kernel_rfl) rfl rfl ?_
          refine Q.moveT rfl ?_
          refine WQ.done ?_
          refine WA.takeP (fuel := 9) 2 rfl (by kernel_rfl) (by kernel_rfl) (by kernel_rfl) rfl rfl ?_
          refine Q.moveT rfl ?_
          refine WQ.done ?_
          refine WA.takeP (fuel := 8) 3 rfl (by kernel_rfl) (by kernel_rfl) (by kernel_rfl) rfl rfl ?_
          refine Q.indexRo hrc Try.underlying22 ti34 rfl rfl (by omega) rfl ?_
          intro ad51 u51 hu51 hl51 hc51
          have hEu := hCC.each _ (List.mem_of_getElem? hu51)
          have hcu := hc100 _ (List.mem_of_getElem? hu51)
          refine WQ.done ?_
          refine WA.takeP (fuel := 7) 4 rfl (by kernel_rfl) (by kernel_rfl) (by kernel_rfl) rfl rfl ?_
          refine Q.fieldElt Try.underlying34 rfl ti2 rfl rfl rfl ?_
          refine WQ.done ?_
          refine WA.take (fuel := 6) 5 rfl (by kernel_rfl) (by kernel_rfl) (by kernel_rfl) (by kernel_rfl) rfl rfl hC ?_
          refine Q.loadRoF hc51 rfl Try.underlying2 rfl rfl rfl ?_
          refine WQ.done ?_
          refine WA.takeP (fuel := 5) 6 rfl (by kernel_rfl) (by kernel_rfl) (by kernel_rfl) rfl rfl ?_
          refine Q.moveT rfl ?_
          refine WQ.done ?_
          refine WA.one (fuel := 4) 7 rfl (by kernel_rfl) rfl ?_
          refine S.moveT rfl ?_
          refine WS.done ⟨fun _ => hS6001, ?_⟩
          replace hC := hS6001
          refine WA.one (fuel := 3) 8 rfl (by kernel_rfl) rfl ?_
          refine S.indexRo hrc Try.underlying22 ti34 rfl rfl (by omega) rfl ?_
          intro ad56 u56 hu56 hl56 hc56
          obtain rfl : u51 = u56 := Option.some.inj (hu51.symm.trans hu56)
          refine WS.done ⟨fun _ => hS6001, ?_⟩
          replace hC := hS6001
          refine WA.one (fuel := 2) 9 rfl (by kernel_rfl) rfl ?_
          refine S.fieldElt Try.underlying34 rfl ti32 rfl rfl rfl ?_
          refine WS.done ⟨fun _ => hS6001, ?_⟩
          replace hC := hS6001
          refine WA.take (fuel := 1) 10 rfl (by kernel_rfl) (by kernel_rfl) (by kernel_rfl) (by kernel_rfl) rfl rfl hC ?_
          refine Q.loadRoF hc56 rfl Try.underlying32 rfl rfl rfl ?_
          refine WQ.done ?_
          refine WA.one (fuel := 0) 11 rfl (by kernel_rfl) rfl ?_
          refine S.call ent12 rfl (h_offer hS6001 (by exact hI1) (by exact hEu.2.2.1) (by exact hEu.1) (by exact hEu.2.2.2.1) (by omega)) rfl ?_
          rintro _ w59 ⟨v59, rfl, hS59⟩
          clear hS6001
          refine WS.done ⟨fun h => absurd h (by decide), ?_⟩
          refine WA.done (by kernel_rfl) ?_
          clear hC
          refine WR.region rfl ?_
          refine S.moveT rfl ?_
          first
            | refine S.addN rfl rfl rfl (by omega) ?_
            | refine S.add rfl rfl rfl ?_
          refine S.assignT rfl ?_
          refine WS.done ?_
          exact ⟨_, (by omega), ⟨i + 1, _, _, _, rfl, (by first | exact ⟨by omega, (hI1.offer (by omega) hEu.2.2.2.1).1, offer_strict hI1 hst (by omega) hEu.2.2.2.1, by have := offer_next (first := u51.first) hI1 (by omega) hEu.2.2.2.1; omega, hR1⟩ | exact ⟨by omega, hI1, hst, by omega, hR1⟩), rfl, ⟨rfl, rfl, trivial⟩, hS59.drop⟩⟩
        ·
          skip
          refine WR.skip ?_
          refine WR.region rfl ?_
          refine S.moveT rfl ?_
          first
            | refine S.addN rfl rfl rfl (by omega) ?_
            | refine S.add rfl rfl rfl ?_
          refine S.assignT rfl ?_
          refine WS.done ?_
          exact ⟨_, (by omega), ⟨i + 1, _, _, _, rfl, (by first | exact ⟨by omega, (hI1.offer (by omega) hEu.2.2.2.1).1, offer_strict hI1 hst (by omega) hEu.2.2.2.1, by have := offer_next (first := u51.first) hI1 (by omega) hEu.2.2.2.1; omega, hR1⟩ | exact ⟨by omega, hI1, hst, by omega, hR1⟩), rfl, ⟨rfl, rfl, trivial⟩, hS1001⟩⟩
      ·
        skip
        refine WR.exit ?_
        refine WR.seq ?_
        have hlm := hI1.len2
        refine WR.region rfl ?_
        refine S.moveT rfl ?_
        refine S.call ent18 rfl (h_waiting hS1001 (by omega)) rfl ?_
        rintro v61 w61 hS61
        clear hS1001
        obtain ⟨R61, hR61, hro61, hSf61⟩ := hS61.freeze (fun _ _ => rfl)
        obtain ⟨fa61, fc61, rfl, hfl61⟩ := hro61.len
        replace hrc := hrc.mono hR61
        refine S.assignT rfl ?_
        refine WS.done ?_
        refine WR.seq ?_
        refine WR.region rfl ?_
        refine S.moveT rfl ?_
        refine S.call ent17 rfl (h_next hSf61 ) rfl ?_
        rintro _ w63 ⟨rfl, hS63⟩
        clear hSf61
        refine S.assignT rfl ?_
        refine WS.done ?_
        refine WR.seq ?_
        refine WR.region rfl ?_
        refine S.moveT rfl ?_
        refine S.call ent15 rfl (h_drain hS63 (by exact hI1)) rfl ?_
        rintro v65 w65 hS65
        clear hS63
        obtain ⟨R65, hR65, hro65, hSf65⟩ := hS65.freeze (fun _ _ => rfl)
        obtain ⟨fa65, fc65, rfl, hfl65⟩ := hro65.len
        replace hrc := hrc.mono hR65
        replace hro61 := hro61.mono hR65
        refine S.assignT rfl ?_
        refine WS.done ?_
        refine WR.seq ?_
        refine WR.seq ?_
        refine WR.region rfl ?_
        refine S.moveT rfl ?_
        refine S.lenSl Try.underlying32 rfl rfl ?_
        refine S.moveT rfl ?_
        refine S.lenSl Try.underlying32 rfl rfl ?_
        refine S.neq rfl rfl rfl ?_
        refine S.isFD (d := 70) rfl (by simp) ?_
        refine S.moveT rfl ?_
        refine S.moveT rfl ?_
        refine S.call ent18 rfl (h_waiting hSf65 (by decide)) rfl ?_
        rintro v73 w73 hS73
        clear hSf65
        obtain ⟨R73, hR73, hro73, hSf73⟩ := hS73.freeze (fun _ _ => rfl)
        obtain ⟨fa73, fc73, rfl, hfl73⟩ := hro73.len
        replace hrc := hrc.mono hR73
        replace hro61 := hro61.mono hR73
        replace hro65 := hro65.mono hR73
        refine S.lenSl Try.underlying32 rfl rfl ?_
        refine S.neq rfl rfl rfl ?_
        refine S.isFD (d := 75) rfl (by simp) ?_
        refine S.pickF rfl rfl ?_
        refine S.moveT rfl ?_
        refine S.moveT rfl ?_
        refine S.call ent17 rfl (h_next hSf73 ) rfl ?_
        rintro _ w79 ⟨rfl, hS79⟩
        clear hSf73
        refine S.moveT rfl ?_
        refine S.neq rfl rfl rfl ?_
        refine S.isFD (d := 81) rfl (by simp) ?_
        refine S.pickF rfl rfl ?_
        refine WS.done ?_
        refine WR.condF rfl ?_
        refine WR.skip ?_
        refine WR.seq ?_
        refine WR.seq ?_
        have hn10 := hI1.n0
        have hn11' := hI1.n1
        have hmm0 := hI1.mo0
        have hmm1 := hI1.mo1
        refine WR.region rfl ?_
        refine S.assignC rfl ?_
        refine WS.done ?_
        refine WR.block ?_
        refine WR.loopE (fun rq mm rr wr => ∃ (i : Nat) (R2 : Kn), mm = m1.length - i ∧ (i ≤ m1.length ∧ R73.le R2) ∧ rr 13 = .int .i64 (i : Int) ∧ Agr [7, 10, 11, 12] rr rq ∧ St wr R2 (blk bh25 (.cells (#[.int .i64 n1, .int .i64 mo, .map (some bm25)]) 51 (0, 0)) :: Mp Try.prog 2 bm25 (mE iE (m1.take i)) :: L)) ⟨0, _, rfl, (by exact ⟨by omega, by repeat (first | assumption | exact Kn.le.refl _ | refine Kn.le.trans ?_ (by assumption))⟩), rfl, ⟨rfl, rfl, rfl, rfl, trivial⟩, hS79⟩ ?_
        rintro mm rr w1002 ⟨i, R2, hm1002, ⟨hi, hR2⟩, hr1002_13, hA1002, hS1002⟩
        obtain ⟨rr, rfl⟩ := agrBack hA1002
        clear hA1002
        obtain ⟨rr, rfl⟩ := back1 (r := rr) hr1002_13
        clear hr1002_13
        have hro61 := hro61.mono hR2
        have hro65 := hro65.mono hR2
        have hml1 : (m1.map (·.1)).length = m1.length := List.length_map ..
        refine WR.seq ?_
        refine WR.seq ?_
        refine WR.region rfl ?_
        refine S.moveT rfl ?_
        refine S.moveT rfl ?_
        refine S.lenSl Try.underlying32 rfl rfl ?_
        refine S.lss rfl rfl rfl ?_
        refine WS.done ?_
        refine WR.condD rfl (fun c86 => ?_) (fun c86 => ?_)
        ·
          skip
          refine WR.skip ?_
          refine WR.seq ?_
          refine WR.block ?_
          refine WR.seq ?_
          refine WR.regionW (fun j => Nat.beq j 10 || Nat.beq j 11 || Nat.beq j 12 || Nat.beq j 13 || Nat.beq j 14 || Nat.beq j 15) 16 rfl mixed hS1002 ?_
          intro w6002 hS6002; clear hS1002; have hC := hS6002
          refine WA.takeP (fuel := 15) 0 rfl (by kernel_rfl) (by kernel_rfl) (by kernel_rfl) rfl rfl ?_
          refine Q.moveT rfl ?_
          refine WQ.done ?_
          refine WA.takeP (fuel := 14) 1 rfl (by kernel_rfl) (by kernel_rfl) (by kernel_rfl) rfl rfl ?_
          refine Q.moveT rfl ?_
          refine WQ.done ?_
          refine WA.takeP (fuel := 13) 2 rfl (by kernel_rfl) (by kernel_rfl) (by kernel_rfl) rfl rfl ?_
          refine Q.moveT rfl ?_
          refine WQ.done ?_
          refine WA.takeP (fuel := 12) 3 rfl (by kernel_rfl) (by kernel_rfl) (by kernel_rfl) rfl rfl ?_
          have hml1 : (m1.map (·.1)).length = m1.length := List.length_map ..
          have hml2 : (m1.map (·.2)).length = m1.length := List.length_map ..
          refine Q.indexRo hro61 Try.underlying32 ti2 rfl rfl (by omega) rfl ?_
          intro ad93 u93 hu93 hl93 hc93
          refine WQ.done ?_
          refine WA.takeP (fuel := 11) 5 rfl (by kernel_rfl) (by kernel_rfl) (by kernel_rfl) rfl rfl ?_
          refine Q.moveT rfl ?_
          refine WQ.done ?_
          refine WA.takeP (fuel := 10) 6 rfl (by kernel_rfl) (by kernel_rfl) (by kernel_rfl) rfl rfl ?_
          refine Q.moveT rfl ?_
          refine WQ.done ?_
          refine WA.takeP (fuel := 9) 7 rfl (by kernel_rfl) (by kernel_rfl) (by kernel_rfl) rfl rfl ?_
          refine Q.indexRo hro65 Try.underlying32 ti2 rfl rfl (by omega) rfl ?_
          intro ad97 u97 hu97 hl97 hc97
          have hum : m1[i] = (u93, u97) := map_pair (getI hu93) (getI hu97)
          have hmem : (u93, u97) ∈ m1 := by rw [← hum]; exact List.getElem_mem _
          have hpt := hI1.hi _ hmem
          have hpl := hst _ hmem
          have hpv := hI1.vals _ hmem
          simp only at hpt hpl hpv
          have hag := offer_again hI1 hst (show i < m1.length by omega) hum (by omega)
          have hIq := hI1.take i
          refine WQ.done ?_
          refine WA.two (fuel := 8) 4 8 rfl rfl (by kernel_rfl) rfl ?_ ?_
          ·
            skip
            refine S.loadRo hS6002 hc93 rfl Try.underlying2 rfl rfl rfl ?_
            refine WS.done ⟨fun _ => hS6002, ?_⟩
            replace hC := hS6002
            refine WA.one (fuel := 7) 8 rfl (by kernel_rfl) rfl ?_
            refine S.loadRo hS6002 hc97 rfl Try.underlying2 rfl rfl rfl ?_
            refine WS.done ⟨fun _ => hS6002, ?_⟩
            replace hC := hS6002
            refine WA.one (fuel := 6) 9 rfl (by kernel_rfl) rfl ?_
            first
              | refine S.buildRow (vs := [.int _ _]) hS6002 Try.underlying32 ti2 rfl rfl rfl rfl rfl rfl rfl ?_
              | refine S.buildRow hS6002 Try.underlying32 ti2 rfl rfl rfl rfl rfl rfl rfl ?_
            intro b99 w99 hS99; clear hS6002
            obtain ⟨R99, hR99, hro99, hSf99⟩ := hS99.keepRow (enc := encI .i64) (n := 1) [u97] rfl (fun _ _ => rfl)
            replace hro61 := hro61.mono hR99
            replace hro65 := hro65.mono hR99
            try replace hc93 := fun j c h => (hc93 j c h).mono hR99
            try replace hc97 := fun j c h => (hc97 j c h).mono hR99
            refine WS.done ⟨fun _ => (hSf99.weak hR99), ?_⟩
            replace hC := (hSf99.weak hR99)
            refine WA.one (fuel := 5) 10 rfl (by kernel_rfl) rfl ?_
            refine S.call ent12 rfl (h_offer hSf99 (by exact hIq) (by unfold fits; omega) (by exact hro99) (by intro z hz; rw [List.mem_singleton] at hz; subst hz; exact hpv) (by simp)) rfl ?_
            rintro _ w100 ⟨v100, rfl, hS100⟩
            clear hSf99
            refine S.as (d := 100) rfl (v' := .tuple #[v100, .int .i64 0]) (by rw [hag]; rfl) ?_
            have hSo := hS100
            rw [hag] at hSo
            obtain ⟨RO, hRO, hroO, hSO⟩ := hSo.freeze (fun _ _ => rfl)
            obtain ⟨fo, fc, rfl, hfo⟩ := hroO.len
            skip
            replace hro61 := hro61.mono hRO
            replace hro65 := hro65.mono hRO
            replace hro99 := hro99.mono hRO
            try replace hc93 := fun j c h => (hc93 j c h).mono hRO
            try replace hc97 := fun j c h => (hc97 j c h).mono hRO
            refine WS.done ⟨fun h => absurd h (by decide), ?_⟩
            refine WA.one (fuel := 4) 11 rfl (by kernel_rfl) rfl ?_
            refine S.moveT rfl ?_
            refine WS.done ⟨fun h => absurd h (by decide), ?_⟩
            refine WA.takeP (fuel := 3) 12 rfl (by kernel_rfl) (by kernel_rfl) (by kernel_rfl) rfl rfl ?_
            refine Q.extract rfl rfl rfl ?_
            refine WQ.done ?_
            refine WA.takeP (fuel := 2) 13 rfl (by kernel_rfl) (by kernel_rfl) (by kernel_rfl) rfl rfl ?_
            refine Q.extract rfl rfl rfl ?_
            refine WQ.done ?_
            refine WA.one (fuel := 1) 14 rfl (by kernel_rfl) rfl ?_
            refine S.assignT rfl ?_
            refine WS.done ⟨fun h => absurd h (by decide), ?_⟩
            refine WA.one (fuel := 0) 15 rfl (by kernel_rfl) rfl ?_
            refine S.assignT rfl ?_
            refine WS.done ⟨fun h => absurd h (by decide), ?_⟩
            refine WA.done (by kernel_rfl) ?_
            clear hC
            refine WR.seq ?_
            skip
            refine WR.region rfl ?_
            refine S.moveT rfl ?_
            refine S.lenSl Try.underlying32 rfl rfl ?_
            refine S.neq rfl rfl rfl ?_
            refine S.isFD (d := 105) rfl (by simp) ?_
            refine S.moveT rfl ?_
            refine S.moveT rfl ?_
            refine S.neq rfl rfl rfl ?_
            refine S.isFD (d := 108) rfl (by simp) ?_
            refine S.pickF rfl rfl ?_
            refine WS.done ?_
            refine WR.condF rfl ?_
            refine WR.skip ?_
            refine WR.region rfl ?_
            refine S.moveT rfl ?_
            first
              | refine S.addN rfl rfl rfl (by omega) ?_
              | refine S.add rfl rfl rfl ?_
            refine S.assignT rfl ?_
            refine WS.done ?_
            exact ⟨_, (by omega), ⟨i + 1, _, rfl, (by exact ⟨by omega, by repeat (first | assumption | exact Kn.le.refl _ | refine Kn.le.trans ?_ (by assumption))⟩), rfl, ⟨rfl, rfl, rfl, rfl, trivial⟩, hSO⟩⟩
          ·
            skip
            refine S.loadRo hS6002 hc97 rfl Try.underlying2 rfl rfl rfl ?_
            refine WS.done ⟨fun _ => hS6002, ?_⟩
            replace hC := hS6002
            refine WA.two (fuel := 7) 4 9 rfl rfl (by kernel_rfl) rfl ?_ ?_
            ·
              skip
              refine S.loadRo hS6002 hc93 rfl Try.underlying2 rfl rfl rfl ?_
              refine WS.done ⟨fun _ => hS6002, ?_⟩
              replace hC := hS6002
              refine WA.one (fuel := 6) 9 rfl (by kernel_rfl) rfl ?_
              first
                | refine S.buildRow (vs := [.int _ _]) hS6002 Try.underlying32 ti2 rfl rfl rfl rfl rfl rfl rfl ?_
                | refine S.buildRow hS6002 Try.underlying32 ti2 rfl rfl rfl rfl rfl rfl rfl ?_
              intro b99 w99 hS99; clear hS6002
              obtain ⟨R99, hR99, hro99, hSf99⟩ := hS99.keepRow (enc := encI .i64) (n := 1) [u97] rfl (fun _ _ => rfl)
              replace hro61 := hro61.mono hR99
              replace hro65 := hro65.mono hR99
              try replace hc93 := fun j c h => (hc93 j c h).mono hR99
              try replace hc97 := fun j c h => (hc97 j c h).mono hR99
              refine WS.done ⟨fun _ => (hSf99.weak hR99), ?_⟩
              replace hC := (hSf99.weak hR99)
              refine WA.one (fuel := 5) 10 rfl (by kernel_rfl) rfl ?_
              refine S.call ent12 rfl (h_offer hSf99 (by exact hIq) (by unfold fits; omega) (by exact hro99) (by intro z hz; rw [List.mem_singleton] at hz; subst hz; exact hpv) (by simp)) rfl ?_
              rintro _ w100 ⟨v100, rfl, hS100⟩
              clear hSf99
              refine S.as (d := 100) rfl (v' := .tuple #[v100, .int .i64 0]) (by rw [hag]; rfl) ?_
              have hSo := hS100
              rw [hag] at hSo
              obtain ⟨RO, hRO, hroO, hSO⟩ := hSo.freeze (fun _ _ => rfl)
              obtain ⟨fo, fc, rfl, hfo⟩ := hroO.len
              skip
              replace hro61 := hro61.mono hRO
              replace hro65 := hro65.mono hRO
              replace hro99 := hro99.mono hRO
              try replace hc93 := fun j c h => (hc93 j c h).mono hRO
              try replace hc97 := fun j c h => (hc97 j c h).mono hRO
              refine WS.done ⟨fun h => absurd h (by decide), ?_⟩
              refine WA.one (fuel := 4) 11 rfl (by kernel_rfl) rfl ?_
              refine S.moveT rfl ?_
              refine WS.done ⟨fun h => absurd h (by decide), ?_⟩
              refine WA.takeP (fuel := 3) 12 rfl (by kernel_rfl) (by kernel_rfl) (by kernel_rfl) rfl rfl ?_
              refine Q.extract rfl rfl rfl ?_
              refine WQ.done ?_
              refine WA.takeP (fuel := 2) 13 rfl (by kernel_rfl) (by kernel_rfl) (by kernel_rfl) rfl rfl ?_
              refine Q.extract rfl rfl rfl ?_
              refine WQ.done ?_
              refine WA.one (fuel := 1) 14 rfl (by kernel_rfl) rfl ?_
              refine S.assignT rfl ?_
              refine WS.done ⟨fun h => absurd h (by decide), ?_⟩
              refine WA.one (fuel := 0) 15 rfl (by kernel_rfl) rfl ?_
              refine S.assignT rfl ?_
              refine WS.done ⟨fun h => absurd h (by decide), ?_⟩
              refine WA.done (by kernel_rfl) ?_
              clear hC
              refine WR.seq ?_
              skip
              refine WR.region rfl ?_
              refine S.moveT rfl ?_
              refine S.lenSl Try.underlying32 rfl rfl ?_
              refine S.neq rfl rfl rfl ?_
              refine S.isFD (d := 105) rfl (by simp) ?_
              refine S.moveT rfl ?_
              refine S.moveT rfl ?_
              refine S.neq rfl rfl rfl ?_
              refine S.isFD (d := 108) rfl (by simp) ?_
              refine S.pickF rfl rfl ?_
              refine WS.done ?_
              refine WR.condF rfl ?_
              refine WR.skip ?_
              refine WR.region rfl ?_
              refine S.moveT rfl ?_
              first
                | refine S.addN rfl rfl rfl (by omega) ?_
                | refine S.add rfl rfl rfl ?_
              refine S.assignT rfl ?_
              refine WS.done ?_
              exact ⟨_, (by omega), ⟨i + 1, _, rfl, (by exact ⟨by omega, by repeat (first | assumption | exact Kn.le.refl _ | refine Kn.le.trans ?_ (by assumption))⟩), rfl, ⟨rfl, rfl, rfl, rfl, trivial⟩, hSO⟩⟩
            ·
              skip
              first
                | refine S.buildRow (vs := [.int _ _]) hS6002 Try.underlying32 ti2 rfl rfl rfl rfl rfl rfl rfl ?_
                | refine S.buildRow hS6002 Try.underlying32 ti2 rfl rfl rfl rfl rfl rfl rfl ?_
              intro b99 w99 hS99; clear hS6002
              obtain ⟨R99, hR99, hro99, hSf99⟩ := hS99.keepRow (enc := encI .i64) (n := 1) [u97] rfl (fun _ _ => rfl)
              replace hro61 := hro61.mono hR99
              replace hro65 := hro65.mono hR99
              try replace hc93 := fun j c h => (hc93 j c h).mono hR99
              try replace hc97 := fun j c h => (hc97 j c h).mono hR99
              refine WS.done ⟨fun _ => (hSf99.weak hR99), ?_⟩
              replace hC := (hSf99.weak hR99)
              refine WA.one (fuel := 6) 4 rfl (by kernel_rfl) rfl ?_
              refine S.loadRo hSf99 hc93 rfl Try.underlying2 rfl rfl rfl ?_
              refine WS.done ⟨fun _ => (hSf99.weak hR99), ?_⟩
              replace hC := (hSf99.weak hR99)
              refine WA.one (fuel := 5) 10 rfl (by kernel_rfl) rfl ?_
              refine S.call ent12 rfl (h_offer hSf99 (by exact hIq) (by unfold fits; omega) (by exact hro99) (by intro z hz; rw [List.mem_singleton] at hz; subst hz; exact hpv) (by simp)) rfl ?_
              rintro _ w100 ⟨v100, rfl, hS100⟩
              clear hSf99
              refine S.as (d := 100) rfl (v' := .tuple #[v100, .int .i64 0]) (by rw [hag]; rfl) ?_
              have hSo := hS100
              rw [hag] at hSo
              obtain ⟨RO, hRO, hroO, hSO⟩ := hSo.freeze (fun _ _ => rfl)
              obtain ⟨fo, fc, rfl, hfo⟩ := hroO.len
              skip
              replace hro61 := hro61.mono hRO
              replace hro65 := hro65.mono hRO
              replace hro99 := hro99.mono hRO
              try replace hc93 := fun j c h => (hc93 j c h).mono hRO
              try replace hc97 := fun j c h => (hc97 j c h).mono hRO
              refine WS.done ⟨fun h => absurd h (by decide), ?_⟩
              refine WA.one (fuel := 4) 11 rfl (by kernel_rfl) rfl ?_
              refine S.moveT rfl ?_
              refine WS.done ⟨fun h => absurd h (by decide), ?_⟩
              refine WA.takeP (fuel := 3) 12 rfl (by kernel_rfl) (by kernel_rfl) (by kernel_rfl) rfl rfl ?_
              refine Q.extract rfl rfl rfl ?_
              refine WQ.done ?_
              refine WA.takeP (fuel := 2) 13 rfl (by kernel_rfl) (by kernel_rfl) (by kernel_rfl) rfl rfl ?_
              refine Q.extract rfl rfl rfl ?_
              refine WQ.done ?_
              refine WA.one (fuel := 1) 14 rfl (by kernel_rfl) rfl ?_
              refine S.assignT rfl ?_
              refine WS.done ⟨fun h => absurd h (by decide), ?_⟩
              refine WA.one (fuel := 0) 15 rfl (by kernel_rfl) rfl ?_
              refine S.assignT rfl ?_
              refine WS.done ⟨fun h => absurd h (by decide), ?_⟩
              refine WA.done (by kernel_rfl) ?_
              clear hC
              refine WR.seq ?_
              skip
              refine WR.region rfl ?_
              refine S.moveT rfl ?_
              refine S.lenSl Try.underlying32 rfl rfl ?_
              refine S.neq rfl rfl rfl ?_
              refine S.isFD (d := 105) rfl (by simp) ?_
              refine S.moveT rfl ?_
              refine S.moveT rfl ?_
              refine S.neq rfl rfl rfl ?_
              refine S.isFD (d := 108) rfl (by simp) ?_
              refine S.pickF rfl rfl ?_
              refine WS.done ?_
              refine WR.condF rfl ?_
              refine WR.skip ?_
              refine WR.region rfl ?_
              refine S.moveT rfl ?_
              first
                | refine S.addN rfl rfl rfl (by omega) ?_
                | refine S.add rfl rfl rfl ?_
              refine S.assignT rfl ?_
              refine WS.done ?_
              exact ⟨_, (by omega), ⟨i + 1, _, rfl, (by exact ⟨by omega, by repeat (first | assumption | exact Kn.le.refl _ | refine Kn.le.trans ?_ (by assumption))⟩), rfl, ⟨rfl, rfl, rfl, rfl, trivial⟩, hSO⟩⟩
        ·
          skip
          refine WR.exit ?_
          refine WR.seq ?_
          refine WR.seq ?_
          have hIq := hI1.take i
          refine WR.region rfl ?_
          refine S.moveT rfl ?_
          refine S.call ent18 rfl (h_waiting hS1002 (by rw [List.length_take]; omega)) rfl ?_
          rintro v111 w111 hS111
          clear hS1002
          obtain ⟨R111, hR111, hro111, hSf111⟩ := hS111.freeze (fun _ _ => rfl)
          obtain ⟨fa111, fc111, rfl, hfl111⟩ := hro111.len
          replace hro61 := hro61.mono hR111
          replace hro65 := hro65.mono hR111
          refine S.moveT rfl ?_
          refine S.call ent14 rfl (u_same hSf111 (by exact hro111) (by exact hro61) (by rw [List.length_map, List.length_take]; omega)) rfl ?_
          rintro _ w113 ⟨rfl, hS113⟩
          clear hSf111
          refine S.isTD (d := 113) rfl (by rw [List.take_of_length_le (by omega)]) ?_
          refine S.not rfl rfl ?_
          refine S.moveT rfl ?_
          refine S.moveT rfl ?_
          refine S.call ent15 rfl (h_drain hS113 (by exact hIq)) rfl ?_
          rintro v117 w117 hS117
          clear hS113
          obtain ⟨R117, hR117, hro117, hSf117⟩ := hS117.freeze (fun _ _ => rfl)
          obtain ⟨fa117, fc117, rfl, hfl117⟩ := hro117.len
          replace hro61 := hro61.mono hR117
          replace hro65 := hro65.mono hR117
          replace hro111 := hro111.mono hR117
          refine S.moveT rfl ?_
          refine S.call ent14 rfl (u_same hSf117 (by exact hro117) (by exact hro65) (by rw [List.length_map, List.length_take]; omega)) rfl ?_
          rintro _ w119 ⟨rfl, hS119⟩
          clear hSf117
          refine S.isTD (d := 119) rfl (by rw [List.take_of_length_le (by omega)]) ?_
          refine S.not rfl rfl ?_
          refine S.pickF rfl rfl ?_
          refine WS.done ?_
          refine WR.condF rfl ?_
          refine WR.skip ?_
          refine WR.seq ?_
          refine WR.seq ?_
          refine WR.region rfl ?_
          refine S.moveT rfl ?_
          refine S.eql rfl rfl rfl ?_
          refine WS.done ?_
          refine WR.condD rfl (fun c123 => ?_) (fun c123 => ?_)
          ·
            skip
            refine WR.seq ?_
            refine WR.region rfl ?_
            refine S.assignC rfl ?_
            refine WS.done ?_
            refine WR.ret (ret1 rfl rfl ?_)
            first | exact ⟨rfl, hS119⟩ | exact ⟨rfl, hS119.drop.drop.weak (by repeat (first | assumption | exact Kn.le.refl _ | refine Kn.le.trans ?_ (by assumption)))⟩
          ·
            skip
            refine WR.skip ?_
            refine WR.seq ?_
            have hn11 : 1 ≤ n1 ∧ n1 ≤ 2199023255553 := by omega
            refine WR.region rfl ?_
            refine S.moveT rfl ?_
            refine S.moveT rfl ?_
            first
              | refine S.subN rfl rfl rfl (by omega) ?_
              | refine S.sub rfl rfl rfl ?_
            first
              | refine S.buildRow (vs := [.int _ _]) hS119 Try.underlying32 ti2 rfl rfl rfl rfl rfl rfl rfl ?_
              | refine S.buildRow hS119 Try.underlying32 ti2 rfl rfl rfl rfl rfl rfl rfl ?_
            intro b128 w128 hS128; clear hS119
            obtain ⟨R128, hR128, hro128, hSf128⟩ := hS128.keepRow (enc := encI .i64) (n := 1) [7] rfl (fun _ _ => rfl)
            replace hro61 := hro61.mono hR128
            replace hro65 := hro65.mono hR128
            replace hro111 := hro111.mono hR128
            replace hro117 := hro117.mono hR128
            refine S.call ent12 rfl (h_offer hSf128 (by exact hI1.nil) (by unfold fits; omega) (by exact hro128) (by simp [fits]) (by simp)) rfl ?_
            rintro _ w129 ⟨v129, rfl, hS129⟩
            clear hSf128
            have hlast := offer_less (mo := mo) (n := n1) hn11
            refine S.as (d := 129) rfl (v' := .tuple #[v129, .int .i64 0]) (by rw [hlast]; rfl) ?_
            have hSo := hS129
            rw [hlast] at hSo
            obtain ⟨RO, hRO, hroO, hSO⟩ := hSo.freeze (fun _ _ => rfl)
            obtain ⟨fo, fc, rfl, hfo⟩ := hroO.len
            skip
            replace hro61 := hro61.mono hRO
            replace hro65 := hro65.mono hRO
            replace hro111 := hro111.mono hRO
            replace hro117 := hro117.mono hRO
            replace hro128 := hro128.mono hRO
            refine S.moveT rfl ?_
            refine S.extract rfl rfl rfl ?_
            refine S.extract rfl rfl rfl ?_
            refine S.assignT rfl ?_
            refine S.assignT rfl ?_
            refine WS.done ?_
            refine WR.seq ?_
            refine WR.region rfl ?_
            refine S.moveT rfl ?_
            refine S.lenSl Try.underlying32 rfl rfl ?_
            refine S.eql rfl rfl rfl ?_
            refine S.isTD (d := 134) rfl (by simp) ?_
            refine S.moveT rfl ?_
            refine S.moveT rfl ?_
            refine S.eql rfl rfl rfl ?_
            refine S.isTD (d := 137) rfl (by rfl) ?_
            refine S.pickT rfl rfl ?_
            refine S.moveT rfl ?_
            refine S.moveT rfl ?_
            refine S.call ent17 rfl (h_next hSO ) rfl ?_
            rintro _ w141 ⟨rfl, hS141⟩
            clear hSO
            refine S.moveT rfl ?_
            refine S.eql rfl rfl rfl ?_
            refine S.isTD (d := 143) rfl (by rfl) ?_
            refine S.pickT rfl rfl ?_
            refine S.assignT rfl ?_
            refine WS.done ?_
            refine WR.ret (ret1 rfl rfl ?_)
            first | exact ⟨rfl, hS141⟩ | exact ⟨rfl, hS141.drop.drop.weak (by repeat (first | assumption | exact Kn.le.refl _ | refine Kn.le.trans ?_ (by assumption)))⟩


end Go.Proofs.Ytcbfmbcmokafpaa.B

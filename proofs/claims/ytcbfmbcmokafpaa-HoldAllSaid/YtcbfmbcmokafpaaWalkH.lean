import Derived.Test.YtcbfmbcmokafpaaWalkG
import Derived.Test.YtcbfmbcmokafpaaCode3
namespace Go.Proofs.Ytcbfmbcmokafpaa.B
open Go.Proofs Go.RowKit
set_option linter.unusedVariables false
set_option linter.unusedSimpArgs false
structure AllI (n : Int) (N : Nat) (S : List Int) (n1 : Int) (m1 : List (Int × Int)) (got : List Int) : Prop where
  hI : HI n1 256 m1
  st : ∀ p ∈ m1, n1 < p.1
  vk : ∀ p ∈ m1, p.2 = p.1
  nx : n1 = n + got.length
  gt : ∀ (q : Nat) u, got[q]? = some u → u = n + q
  cov : ∀ s ∈ S, n + s < n1 ∨ (aget m1 (n + s)).isSome = true
  top : n1 ≤ n + N ∧ ∀ p ∈ m1, p.1 < n + N
theorem AllI.start {n : Int} {N : Nat} (h : HI n 256 []) : AllI n N [] n [] [] :=
  ⟨h, (fun _ h => by cases h), (fun _ h => by cases h), by simp, fun q u h => by simp at h, (fun _ h => by cases h), by omega, (fun _ h => by cases h)⟩
theorem AllI.glen {n : Int} {N : Nat} {S : List Int} {n1 : Int} {m1 : List (Int × Int)} {got : List Int} (h : AllI n N S n1 m1 got) (hN : N ≤ 100) : got.length ≤ 100 := by
  have := h.nx; have := h.top.1; omega
theorem seqL_mem {N : Nat} {u : Int} (h : u ∈ seqL 0 N) : 0 ≤ u ∧ u < N := by
  unfold seqL at h
  obtain ⟨j, hj, rfl⟩ := List.mem_map.1 h
  have := List.mem_range.1 hj
  omega
theorem mem_seqL {N : Nat} {u : Int} (h0 : 0 ≤ u) (h : u < N) : u ∈ seqL 0 N :=
  List.mem_map.2 ⟨u.toNat, List.mem_range.2 (by omega), by omega⟩
theorem AllI.fin {n : Int} {N : Nat} {S : List Int} {n1 : Int} {m1 : List (Int × Int)} {got : List Int} (h : AllI n N S n1 m1 got) (hp : S.Perm (seqL 0 N)) (hN : N ≤ 100) : got.length = N ∧ m1 = [] ∧ n1 = n + N := by
  have h1 : n1 = n + N := by
    rcases Int.lt_or_eq_of_le h.top.1 with hlt | heq
    · exfalso
      have := h.nx
      rcases h.cov (n1 - n) (hp.mem_iff.2 (mem_seqL (by omega) (by omega))) with q | q
      · omega
      · obtain ⟨x, hx⟩ := Option.isSome_iff_exists.1 q
        have := h.st _ (aget_mem hx)
        simp only at this; omega
    · exact heq
  refine ⟨by have := h.nx; omega, ?_, h1⟩
  cases m1 with
  | nil => rfl
  | cons p r =>
    have h2 := h.st p (List.mem_cons_self ..)
    have h3 := h.top.2 p (List.mem_cons_self ..)
    omega
theorem aget_aput {m : List (Int × Int)} {k j v : Int} (hg : aget m k = none) (h : j = k ∨ (aget m j).isSome = true) : (aget (aput m k v) j).isSome = true := by
  rw [aput_new hg]
  rcases h with rfl | h
  · exact isSome_mem ((mem_ains m).2 (.inl rfl)) rfl
  · obtain ⟨x, hx⟩ := Option.isSome_iff_exists.1 h
    exact isSome_mem ((mem_ains m).2 (.inr (aget_mem hx))) rfl
theorem rel_cov {mo j : Int} : ∀ (m : List (Int × Int)) (n : Int), HI n mo m → (aget m j).isSome = true → j < (rel n m).2.1 ∨ (aget (rel n m).2.2 j).isSome = true
  | [], n, _, h => .inr h
  | p :: r, n, hI, h => by
    by_cases e : p.1 = n
    · obtain ⟨k, x⟩ := p
      simp only at e
      subst e
      rw [rel_hit]
      by_cases hj : j = k
      · have h3 := (hI.tail.rel).2.2.1
        exact .inl (by simp only; omega)
      · refine rel_cov r (k + 1) hI.tail ?_
        obtain ⟨y, hy⟩ := Option.isSome_iff_exists.1 h
        rcases List.mem_cons.1 (aget_mem hy) with q | q
        · injection q with q _; exact absurd q hj
        · exact isSome_mem q rfl
    · have hm : rel n (p :: r) = ([], n, p :: r) := rel_miss (fun q s hq => by injection hq with hq _; subst hq; exact e)
      rw [hm]; exact .inr h
theorem rel_top {B : Int} : ∀ (m : List (Int × Int)) (n : Int), (∀ p ∈ m, p.1 < B) → n ≤ B → (rel n m).2.1 ≤ B ∧ ∀ p ∈ (rel n m).2.2, p.1 < B
  | [], n, _, h => ⟨h, fun p hp => by cases hp⟩
  | p :: r, n, hb, h => by
    by_cases e : p.1 = n
    · obtain ⟨k, x⟩ := p
      simp only at e
      subst e
      have := hb _ (List.mem_cons_self ..)
      rw [rel_hit]
      exact rel_top r (k + 1) (fun p hp => hb p (List.mem_cons_of_mem _ hp)) (by simp only at this; omega)
    · have hm : rel n (p :: r) = ([], n, p :: r) := rel_miss (fun q s hq => by injection hq with hq _; subst hq; exact e)
      rw [hm]; exact ⟨h, hb⟩
theorem offer_one {n1 k v : Int} {m1 : List (Int × Int)} (hk : 0 ≤ k ∧ k ≤ 2199023255552) : offer n1 256 m1 k [v] = ((rel n1 (offStep n1 256 (m1, 0) k v).1).1, (offStep n1 256 (m1, 0) k v).2, (rel n1 (offStep n1 256 (m1, 0) k v).1).2.1, (rel n1 (offStep n1 256 (m1, 0) k v).1).2.2) := by
  have e : offT n1 256 m1 k [v] 1 = offStep n1 256 (m1, 0) k v := by
    show offStep n1 256 (m1, 0) (k + ((0 : Nat) : Int)) v = _
    rw [show k + ((0 : Nat) : Int) = k by omega]
  rw [offer_in (by omega), show [v].length = 1 from rfl, e]
theorem AllI.rel {n : Int} {N : Nat} {S : List Int} {n1 : Int} {m1 m2 : List (Int × Int)} {got : List Int} {u : Int} (h : AllI n N S n1 m1 got) (hI : HI n1 256 m2) (hv : ∀ p ∈ m2, p.2 = p.1) (hc : ∀ s, s = u ∨ (aget m1 (n + s)).isSome = true → n + s < n1 ∨ (aget m2 (n + s)).isSome = true) (ht : ∀ p ∈ m2, p.1 < n + N) :
    AllI n N (S ++ [u]) (B.rel n1 m2).2.1 (B.rel n1 m2).2.2 (got ++ (B.rel n1 m2).1) := by
  obtain ⟨r1, r2, r3, r4, r5⟩ := hI.rel
  obtain ⟨k1, k2⟩ := rel_keys m2 n1 hv
  refine ⟨r1, r2, k2, by rw [r3, List.length_append, h.nx]; omega, fun q x hx => ?_, fun s hs => ?_, rel_top m2 n1 ht h.top.1⟩
  · by_cases hq : q < got.length
    · rw [List.getElem?_append_left hq] at hx; exact h.gt q x hx
    · rw [List.getElem?_append_right (by omega)] at hx
      have := k1 _ x hx
      have := h.nx
      omega
  · have h0 : n + s < n1 ∨ (aget m2 (n + s)).isSome = true := by
      rcases List.mem_append.1 hs with hs | hs
      · rcases h.cov s hs with q | q
        · exact .inl q
        · exact hc s (.inr q)
      · rw [List.mem_singleton] at hs; exact hc s (.inl hs)
    rcases h0 with q | q
    · exact .inl (by omega)
    · exact rel_cov m2 n1 hI q
theorem all_step {n : Int} {N : Nat} {S : List Int} {n1 : Int} {m1 : List (Int × Int)} {got : List Int} {u : Int} (h : AllI n N S n1 m1 got) (hN : N ≤ 100) (h0 : 0 ≤ u) (h1 : u < N) (hn : 0 ≤ n ∧ n ≤ 1099511627776) :
    (offer n1 256 m1 (n + u) [n + u]).2.1 = 0 ∧ AllI n N (S ++ [u]) (offer n1 256 m1 (n + u) [n + u]).2.2.1 (offer n1 256 m1 (n + u) [n + u]).2.2.2 (got ++ (offer n1 256 m1 (n + u) [n + u]).1) := by
  have hn1 := h.nx
  rw [offer_one (by omega)]
  by_cases q : n + u < n1 ∨ (aget m1 (n + u)).isSome = true
  · rw [offStep_old (st := (m1, 0)) q]
    refine ⟨rfl, h.rel h.hI h.vk (fun s hs => ?_) h.top.2⟩
    rcases hs with rfl | hs
    · exact q
    · exact .inr hs
  · rw [offStep_new (st := (m1, 0)) q (by omega)]
    have hg : aget m1 (n + u) = none := by
      cases hg : aget m1 (n + u) with
      | none => rfl
      | some x => exact absurd (.inr (by rw [hg]; rfl)) q
    refine ⟨rfl, h.rel (h.hI.put (by omega) (by omega) (by omega) hg (by unfold fits; omega)) (fun p hp => ?_) (fun s hs => .inr (aget_aput hg (by rcases hs with rfl | hs; exact .inl rfl; exact .inr hs))) (fun p hp => ?_)⟩
    · simp only at hp
      rw [aput_new hg] at hp
      rcases (mem_ains _).1 hp with rfl | hp
      · rfl
      · exact h.vk p hp
    · simp only at hp
      rw [aput_new hg] at hp
      rcases (mem_ains _).1 hp with rfl | hp
      · simp only; omega
      · exact h.top.2 p hp
theorem all_old {n : Int} {N : Nat} {S : List Int} {n1 : Int} {m1 : List (Int × Int)} {got : List Int} {u : Int} (h : AllI n N (S ++ [u]) n1 m1 got) (h0 : 0 ≤ u) (h1 : u < N) (hN : N ≤ 100) (hn : 0 ≤ n ∧ n ≤ 1099511627776) :
    offer n1 256 m1 (n + u) [-1] = ([], 0, n1, m1) := by
  rw [offer_one (by omega), offStep_old (st := (m1, 0)) (h.cov u (by simp)), rel_strict h.st]
theorem swap_perm {ys : List Int} {i k : Nat} {a b : Int} (ha : ys[i]? = some a) (hb : ys[k]? = some b) : ((ys.set i b).set k a).Perm ys := by
  obtain ⟨h1, rfl⟩ := List.getElem?_eq_some_iff.1 ha
  obtain ⟨h2, rfl⟩ := List.getElem?_eq_some_iff.1 hb
  exact List.set_set_perm h1 h2
set_option maxRecDepth 100000 in
set_option maxHeartbeats 4000000 in
theorem law_HoldAll {w : World} {R : Kn} {L : List HP}  (hS : St w R (L)) {n : Int} {v1 : Value} {os : List Int} {tw : Bool} (hn : fits n) (h1 : Ro R (encI .u8) 1 v1 os) (hb : ∀ x ∈ os, 0 ≤ x ∧ x < 256) (hm : os.length ≤ 140737488355328) :
    Fn Try.prog 5 #[.int .i64 n, v1, .bool tw] w (fun v w' => v = .bool true ∧ St w' R L) := by
  obtain ⟨a1, c1, rfl, hl1⟩ := h1.len
  have hnf := id hn
  unfold fits at hnf
  refine Fn.intro (n := 173) Try.func5 rfl rfl rfl ?_
  refine WR.seq ?_
  refine WR.region rfl ?_
  refine S.assignC rfl ?_
  refine WS.done ?_
  refine WR.seq ?_
  refine WR.seq ?_
  refine WR.region rfl ?_
  refine S.call ent7 rfl (l13_alive hS ) rfl ?_
  rintro _ w21 ⟨rfl, hS21⟩
  clear hS
  refine S.not rfl rfl ?_
  refine WS.done ?_
  refine WR.condF rfl ?_
  refine WR.skip ?_
  refine WR.seq ?_
  refine WR.seq ?_
  refine WR.region rfl ?_
  refine S.moveT rfl ?_
  refine S.lenSl Try.underlying46 rfl rfl ?_
  refine S.gtr rfl rfl rfl ?_
  refine S.moveT rfl ?_
  refine S.splitD (d := 26) rfl (fun c26 => ?_) (fun c26 => ?_)
  ·
    skip
    refine S.off rfl ?_
    refine S.off rfl ?_
    refine S.pickTC rfl rfl ?_
    refine S.moveT rfl ?_
    refine S.off rfl ?_
    refine S.off rfl ?_
    refine S.pickTC rfl rfl ?_
    refine WS.done ?_
    refine WR.condT rfl ?_
    refine WR.seq ?_
    refine WR.region rfl ?_
    refine S.assignC rfl ?_
    refine WS.done ?_
    refine WR.ret (ret1 rfl rfl ?_)
    first | exact ⟨rfl, hS21⟩ | exact ⟨rfl, hS21.weak (by repeat (first | assumption | exact Kn.le.refl _ | refine Kn.le.trans ?_ (by assumption)))⟩
  ·
    skip
    refine S.moveT rfl ?_
    refine S.lss rfl rfl rfl ?_
    refine S.pickF rfl rfl ?_
    refine S.moveT rfl ?_
    refine S.splitD (d := 30) rfl (fun c30 => ?_) (fun c30 => ?_)
    ·
      skip
      refine S.off rfl ?_
      refine S.off rfl ?_
      refine S.pickTC rfl rfl ?_
      refine WS.done ?_
      refine WR.condT rfl ?_
      refine WR.seq ?_
      refine WR.region rfl ?_
      refine S.assignC rfl ?_
      refine WS.done ?_
      refine WR.ret (ret1 rfl rfl ?_)
      first | exact ⟨rfl, hS21⟩ | exact ⟨rfl, hS21.weak (by repeat (first | assumption | exact Kn.le.refl _ | refine Kn.le.trans ?_ (by assumption)))⟩
    ·
      skip
      refine S.moveT rfl ?_
      refine S.gtr rfl rfl rfl ?_
      refine S.pickF rfl rfl ?_
      refine WS.done ?_
      refine WR.condD rfl (fun c33 => ?_) (fun c33 => ?_)
      ·
        skip
        refine WR.seq ?_
        refine WR.region rfl ?_
        refine S.assignC rfl ?_
        refine WS.done ?_
        refine WR.ret (ret1 rfl rfl ?_)
        first | exact ⟨rfl, hS21⟩ | exact ⟨rfl, hS21.weak (by repeat (first | assumption | exact Kn.le.refl _ | refine Kn.le.trans ?_ (by assumption)))⟩
      ·
        skip
        refine WR.skip ?_
        refine WR.seq ?_
        refine WR.region rfl ?_
        refine S.moveT rfl ?_
        refine S.call ent9 rfl (h_new hS21 ) rfl ?_
        rintro v36 w36 hcs36
        clear hS21
        rcases hcs36 with ⟨hkl, -⟩ | ⟨hN36, bh36, bm36, rfl, hS36⟩
        · exact absurd hkl (by omega)
        have hI36 : HI n 256 [] := HI.new (by omega) (by omega) (by decide) (by decide)
        refine S.moveT rfl ?_
        refine S.extract rfl rfl rfl ?_
        refine S.extract rfl rfl rfl ?_
        refine S.assignT rfl ?_
        refine S.assignT rfl ?_
        refine WS.done ?_
        refine WR.seq ?_
        refine WR.seq ?_
        refine WR.region rfl ?_
        refine S.moveT rfl ?_
        refine S.neq rfl rfl rfl ?_
        refine S.isFD (d := 40) rfl (by decide) ?_
        refine S.moveT rfl ?_
        refine S.moveT rfl ?_
        refine S.eqlNil Try.underlying25 rfl rfl rfl ?_
        refine S.pickF rfl rfl ?_
        refine WS.done ?_
        refine WR.condF rfl ?_
        refine WR.skip ?_
        refine WR.seq ?_
        refine WR.region rfl ?_
        refine S.moveT rfl ?_
        refine S.lenSl Try.underlying46 rfl rfl ?_
        refine S.assignT rfl ?_
        refine WS.done ?_
        refine WR.seq ?_
        have hN : os.length ≤ 100 := by omega
        refine WR.region rfl ?_
        first
          | refine S.buildRow (vs := []) hS36 Try.underlying32 ti2 rfl rfl rfl rfl rfl rfl rfl ?_
          | refine S.buildRow hS36 Try.underlying32 ti2 rfl rfl rfl rfl rfl rfl rfl ?_
        intro b47 w47 hS47; clear hS36
        have hSo := hS47.ownRow (enc := encI .i64) (n := 1) (seqL 0 0) rfl (fun _ h => by cases h) (by rw [seqL_len]; decide)
        refine S.assignT rfl ?_
        refine WS.done ?_
        refine WR.seq ?_
        refine WR.seq ?_
        refine WR.region rfl ?_
        refine S.assignC rfl ?_
        refine WS.done ?_
        refine WR.block ?_
        refine WR.loopE (fun rq mm rr wr => ∃ (i : Nat) (v10 : Value), mm = os.length - i ∧ (i ≤ os.length) ∧ rr 10 = v10 ∧ rr 11 = .int .i64 (i : Int) ∧ Agr [0, 1, 2, 7, 9] rr rq ∧ St wr R (Ow 2 (encI .i64) 1 v10 (seqL 0 i) :: blk bh36 (.cells (#[.int .i64 n, .int .i64 256, .map (some bm36)]) 51 (0, 0)) :: Mp Try.prog 2 bm36 (mE iE []) :: L)) ⟨0, _, rfl, (by omega), rfl, rfl, ⟨rfl, rfl, rfl, rfl, rfl, trivial⟩, hSo⟩ ?_
        rintro mm rr w1001 ⟨i, v10, hm1001, hi, hr1001_10, hr1001_11, hA1001, hS1001⟩
        obtain ⟨rr, rfl⟩ := agrBack hA1001
        clear hA1001
        obtain ⟨rr, rfl⟩ := back2 (r := rr) hr1001_10 hr1001_11
        clear hr1001_10 hr1001_11
        refine WR.seq ?_
        refine WR.seq ?_
        refine WR.region rfl ?_
        refine S.moveT rfl ?_
        refine S.moveT rfl ?_
        refine S.lss rfl rfl rfl ?_
        refine WS.done ?_
        refine WR.condD rfl (fun c50 => ?_) (fun c50 => ?_)
        ·
          skip
          refine WR.skip ?_
          refine WR.seq ?_
          refine WR.block ?_
          skip
          refine WR.region rfl ?_
          refine S.moveT rfl ?_
          refine S.moveT rfl ?_
          first
            | refine S.buildRow (vs := [.int _ _]) hS1001 Try.underlying32 ti2 rfl rfl rfl rfl rfl rfl rfl ?_
            | refine S.buildRow hS1001 Try.underlying32 ti2 rfl rfl rfl rfl rfl rfl rfl ?_
          intro b55 w55 hS55; clear hS1001
          refine S.appendTmp (i := 0) [(i : Int)] hS55 rfl rfl (fun _ _ => rfl) Try.underlying32 ti2 rfl rfl rfl rfl encI_one (by rw [seqL_len, List.length_singleton]; omega) rfl ?_
          intro v56 w56 hS56; clear hS55
          refine S.assignT rfl ?_
          refine WS.done ?_
          refine WR.region rfl ?_
          refine S.moveT rfl ?_
          first
            | refine S.addN rfl rfl rfl (by omega) ?_
            | refine S.add rfl rfl rfl ?_
          refine S.assignT rfl ?_
          refine WS.done ?_
          exact ⟨_, (by omega), ⟨i + 1, v56, rfl, (by omega), rfl, rfl, ⟨rfl, rfl, rfl, rfl, rfl, trivial⟩, (by rw [seqL_succ, Int.zero_add]; exact hS56)⟩⟩
        ·
          skip
          refine WR.exit ?_
          refine WR.seq ?_
          refine WR.seq ?_
          obtain rfl : i = os.length := by omega
          refine WR.region rfl ?_
          refine S.assignC rfl ?_
          refine WS.done ?_
          refine WR.block ?_
          refine WR.loopE (fun rq mm rr wr => ∃ (i : Nat) (ys : List Int), mm = os.length - i ∧ (i ≤ os.length ∧ ys.Perm (seqL 0 os.length)) ∧ rr 12 = .int .i64 (i : Int) ∧ Agr [0, 1, 2, 7, 9, 10] rr rq ∧ St wr R (Ow 2 (encI .i64) 1 v10 ys :: blk bh36 (.cells (#[.int .i64 n, .int .i64 256, .map (some bm36)]) 51 (0, 0)) :: Mp Try.prog 2 bm36 (mE iE []) :: L)) ⟨0, _, rfl, (by exact ⟨by omega, List.Perm.refl _⟩), rfl, ⟨rfl, rfl, rfl, rfl, rfl, rfl, trivial⟩, hS1001⟩ ?_
          rintro mm rr w1002 ⟨i, ys, hm1002, ⟨hi, hp⟩, hr1002_12, hA1002, hS1002⟩
          obtain ⟨rr, rfl⟩ := agrBack hA1002
          clear hA1002
          obtain ⟨rr, rfl⟩ := back1 (r := rr) hr1002_12
          clear hr1002_12
          have hyl : ys.length = os.length := by rw [hp.length_eq, seqL_len]
          refine WR.seq ?_
          refine WR.seq ?_
          refine WR.region rfl ?_
          refine S.moveT rfl ?_
          refine S.moveT rfl ?_
          refine S.lenSl Try.underlying46 rfl rfl ?_
          refine S.lss rfl rfl rfl ?_
          refine WS.done ?_
          refine WR.condD rfl (fun c60 => ?_) (fun c60 => ?_)
          ·
            skip
            refine WR.skip ?_
            refine WR.seq ?_
            refine WR.block ?_
            refine WR.seq ?_
            refine WR.region rfl ?_
            refine S.moveT rfl ?_
            refine S.moveT rfl ?_
            refine S.moveT rfl ?_
            refine S.indexRo h1 Try.underlying46 ti5 rfl rfl (by omega) rfl ?_
            intro ad66 u66 hu66 hl66 hc66
            refine S.loadRo hS1002 hc66 rfl Try.underlying5 rfl rfl rfl ?_
            have hu8 := hb u66 (List.mem_of_getElem? hu66)
            first
              | refine S.convN Try.underlying5 Try.underlying3 rfl rfl (wrap_i64 (by omega) (by omega)) ?_
              | refine S.conv Try.underlying5 Try.underlying3 rfl rfl ?_
            refine S.moveT rfl ?_
            refine S.lenSl Try.underlying46 rfl rfl ?_
            refine S.moveT rfl ?_
            first
              | refine S.subN rfl rfl rfl (by omega) ?_
              | refine S.sub rfl rfl rfl ?_
            have hlt0 : (0 : Int) < os.length - i := by omega
            have hq0 := Int.emod_nonneg u66 (show (os.length : Int) - i ≠ 0 by omega)
            have hq1 := Int.emod_lt_of_pos u66 hlt0
            first
              | refine S.remN rfl rfl (by omega) (by omega) rfl ?_
              | refine S.rem rfl rfl (by omega) rfl ?_
            first
              | refine S.addN rfl rfl rfl (by omega) ?_
              | refine S.add rfl rfl rfl ?_
            obtain ⟨k, hk⟩ : ∃ k : Nat, (i : Int) + u66 % (os.length - i) = k := ⟨((i : Int) + u66 % (os.length - i)).toNat, by omega⟩
            refine S.as (d := 74) rfl (congrArg (Value.int .i64) hk) ?_
            have hkn : k < os.length := by omega
            obtain ⟨ua, hua⟩ : ∃ u, ys[i]? = some u := ⟨_, List.getElem?_eq_getElem (by omega)⟩
            obtain ⟨ub, hub⟩ : ∃ u, ys[k]? = some u := ⟨_, List.getElem?_eq_getElem (by omega)⟩
            refine S.assignT rfl ?_
            refine WS.done ?_
            skip
            refine WR.regionW (fun j => Nat.beq j 13 || Nat.beq j 14 || Nat.beq j 15) 16 rfl mixed hS1002 ?_
            intro w6001 hS6001; clear hS1002; have hC := hS6001
            refine WA.take (fuel := 15) 0 rfl (by kernel_rfl) (by kernel_rfl) (by kernel_rfl) (by kernel_rfl) rfl rfl hC ?_
            refine Q.moveT rfl ?_
            refine WQ.done ?_
            refine WA.take (fuel := 14) 1 rfl (by kernel_rfl) (by kernel_rfl) (by kernel_rfl) (by kernel_rfl) rfl rfl hC ?_
            refine Q.moveT rfl ?_
            refine WQ.done ?_
            refine WA.take (fuel := 13) 4 rfl (by kernel_rfl) (by kernel_rfl) (by kernel_rfl) (by kernel_rfl) rfl rfl hC ?_
            refine Q.moveT rfl ?_
            refine WQ.done ?_
            refine WA.take (fuel := 12) 5 rfl (by kernel_rfl) (by kernel_rfl) (by kernel_rfl) (by kernel_rfl) rfl rfl hC ?_
            refine Q.moveT rfl ?_
            refine WQ.done ?_
            refine WA.take (fuel := 11) 6 rfl (by kernel_rfl) (by kernel_rfl) (by kernel_rfl) (by kernel_rfl) rfl rfl hC ?_
            refine Q.indexOw (i := 0) rfl Try.underlying32 ti2 rfl rfl (by omega) rfl ?_
            refine WQ.done ?_
            refine WA.take (fuel := 10) 7 rfl (by kernel_rfl) (by kernel_rfl) (by kernel_rfl) (by kernel_rfl) rfl rfl hC ?_
            refine Q.loadOw (i := 0) rfl (fun _ _ => rfl) Try.underlying2 rfl rfl (hub) rfl rfl ?_
            refine WQ.done ?_
            refine WA.takeP (fuel := 9) 2 rfl (by kernel_rfl) (by kernel_rfl) (by kernel_rfl) rfl rfl ?_
            refine Q.moveT rfl ?_
            refine WQ.done ?_
            refine WA.takeP (fuel := 8) 3 rfl (by kernel_rfl) (by kernel_rfl) (by kernel_rfl) rfl rfl ?_
            refine Q.moveT rfl ?_
            refine WQ.done ?_
            refine WA.takeP (fuel := 7) 8 rfl (by kernel_rfl) (by kernel_rfl) (by kernel_rfl) rfl rfl ?_
            refine Q.moveT rfl ?_
            refine WQ.done ?_
            refine WA.one (fuel := 6) 9 rfl (by kernel_rfl) rfl ?_
            refine S.moveT rfl ?_
            refine WS.done ⟨fun _ => hS6001, ?_⟩
            replace hC := hS6001
            refine WA.one (fuel := 5) 10 rfl (by kernel_rfl) rfl ?_
            refine S.indexOw (i := 0) hS6001 rfl Try.underlying32 ti2 rfl rfl (by omega) rfl ?_
            refine WS.done ⟨fun _ => hS6001, ?_⟩
            replace hC := hS6001
            refine WA.take (fuel := 4) 11 rfl (by kernel_rfl) (by kernel_rfl) (by kernel_rfl) (by kernel_rfl) rfl rfl hC ?_
            refine Q.loadOw (i := 0) rfl (fun _ _ => rfl) Try.underlying2 rfl rfl (hua) rfl rfl ?_
            refine WQ.done ?_
            refine WA.take (fuel := 3) 12 rfl (by kernel_rfl) (by kernel_rfl) (by kernel_rfl) (by kernel_rfl) rfl rfl hC ?_
            refine Q.indexOw (i := 0) rfl Try.underlying32 ti2 rfl rfl (by omega) rfl ?_
            refine WQ.done ?_
            refine WA.one (fuel := 2) 13 rfl (by kernel_rfl) rfl ?_
            refine S.storeOw (i := 0) hS6001 rfl (fun _ _ => rfl) ti2 rfl (by omega) rfl rfl rfl rfl rfl ?_
            intro w2002 hS2002; clear hS6001
            refine WS.done ⟨fun h => absurd h (by decide), ?_⟩
            refine WA.one (fuel := 1) 14 rfl (by kernel_rfl) rfl ?_
            refine S.indexOw (i := 0) hS2002 rfl Try.underlying32 ti2 rfl rfl (by rw [List.length_set]; omega) rfl ?_
            refine WS.done ⟨fun h => absurd h (by decide), ?_⟩
            refine WA.one (fuel := 0) 15 rfl (by kernel_rfl) rfl ?_
            refine S.storeOw (i := 0) hS2002 rfl (fun _ _ => rfl) ti2 rfl (by rw [List.length_set]; omega) rfl rfl rfl rfl rfl ?_
            intro w2003 hS2003; clear hS2002
            refine WS.done ⟨fun h => absurd h (by decide), ?_⟩
            refine WA.done (by kernel_rfl) ?_
            clear hC
            refine WR.region rfl ?_
            refine S.moveT rfl ?_
            first
              | refine S.addN rfl rfl rfl (by omega) ?_
              | refine S.add rfl rfl rfl ?_
            refine S.assignT rfl ?_
            refine WS.done ?_
            exact ⟨_, (by omega), ⟨i + 1, _, rfl, (by exact ⟨by omega, (swap_perm hua hub).trans hp⟩), rfl, ⟨rfl, rfl, rfl, rfl, rfl, rfl, trivial⟩, hS2003⟩⟩
          ·
            skip
            refine WR.exit ?_
            refine WR.seq ?_
            refine WR.region rfl ?_
            first
              | refine S.buildRow (vs := []) hS1002 Try.underlying32 ti2 rfl rfl rfl rfl rfl rfl rfl ?_
              | refine S.buildRow hS1002 Try.underlying32 ti2 rfl rfl rfl rfl rfl rfl rfl ?_
            intro b89 w89 hS89; clear hS1002
            have hSo := hS89.ownRow (enc := encI .i64) (n := 1) [] rfl (fun _ h => by cases h) (by simp)
            refine S.assignT rfl ?_
            refine WS.done ?_
            refine WR.seq ?_
            refine WR.seq ?_
            refine WR.region rfl ?_
            refine S.assignC rfl ?_
            refine WS.done ?_
            refine WR.block ?_
            refine WR.loopE (fun rq mm rr wr => ∃ (i : Nat) (n1 : Int) (m1 : List (Int × Int)) (got : List Int) (v14 : Value) (R1 : Kn), mm = ys.length - i ∧ (i ≤ ys.length ∧ AllI n os.length (ys.take i) n1 m1 got ∧ R.le R1) ∧ rr 14 = v14 ∧ rr 15 = .int .i64 (i : Int) ∧ Agr [0, 2, 7, 9, 10] rr rq ∧ St wr R1 (Ow 2 (encI .i64) 1 v14 got :: Ow 2 (encI .i64) 1 v10 ys :: blk bh36 (.cells (#[.int .i64 n1, .int .i64 256, .map (some bm36)]) 51 (0, 0)) :: Mp Try.prog 2 bm36 (mE iE m1) :: L)) ⟨0, n, [], [], _, R, rfl, (by exact ⟨by omega, AllI.start hI36, Kn.le.refl _⟩), rfl, rfl, ⟨rfl, rfl, rfl, rfl, rfl, trivial⟩, hSo⟩ ?_
            rintro mm rr w1003 ⟨i, n1, m1, got, v14, R1, hm1003, ⟨hi, hA, hR1⟩, hr1003_14, hr1003_15, hA1003, hS1003⟩
            obtain ⟨rr, rfl⟩ := agrBack hA1003
            clear hA1003
            obtain ⟨rr, rfl⟩ := back2 (r := rr) hr1003_14 hr1003_15
            clear hr1003_14 hr1003_15
            obtain ⟨ag, cg, rfl⟩ := hS1003.rowLen
            obtain ⟨ao, co, rfl⟩ := (hS1003.at_ (i := 1) rfl).rowLen
            refine WR.seq ?_
            refine WR.seq ?_
            refine WR.region rfl ?_
            refine S.moveT rfl ?_
            refine S.moveT rfl ?_
            refine S.lenSl Try.underlying32 rfl rfl ?_
            refine S.lss rfl rfl rfl ?_
            refine WS.done ?_
            refine WR.condD rfl (fun c93 => ?_) (fun c93 => ?_)
            ·
              skip
              refine WR.skip ?_
              refine WR.seq ?_
              refine WR.block ?_
              refine WR.seq ?_
              obtain ⟨u, hu⟩ : ∃ u, ys[i]? = some u := ⟨_, List.getElem?_eq_getElem (by omega)⟩
              obtain ⟨hu0, hu1⟩ := seqL_mem (hp.mem_iff.1 (List.mem_of_getElem? hu))
              have hgl := hA.glen hN
              have hn1a := hA.nx
              refine WR.regionW (fun j => Nat.beq j 14 || Nat.beq j 15 || Nat.beq j 16 || Nat.beq j 17 || Nat.beq j 18 || Nat.beq j 19) 20 rfl mixed hS1003 ?_
              intro w6004 hS6004; clear hS1003; have hC := hS6004
              refine WA.takeP (fuel := 19) 0 rfl (by kernel_rfl) (by kernel_rfl) (by kernel_rfl) rfl rfl ?_
              refine Q.moveT rfl ?_
              refine WQ.done ?_
              refine WA.takeP (fuel := 18) 1 rfl (by kernel_rfl) (by kernel_rfl) (by kernel_rfl) rfl rfl ?_
              refine Q.moveT rfl ?_
              refine WQ.done ?_
              refine WA.takeP (fuel := 17) 2 rfl (by kernel_rfl) (by kernel_rfl) (by kernel_rfl) rfl rfl ?_
              refine Q.moveT rfl ?_
              refine WQ.done ?_
              refine WA.takeP (fuel := 16) 3 rfl (by kernel_rfl) (by kernel_rfl) (by kernel_rfl) rfl rfl ?_
              refine Q.moveT rfl ?_
              refine WQ.done ?_
              refine WA.takeP (fuel := 15) 7 rfl (by kernel_rfl) (by kernel_rfl) (by kernel_rfl) rfl rfl ?_
              refine Q.moveT rfl ?_
              refine WQ.done ?_
              refine WA.takeP (fuel := 14) 8 rfl (by kernel_rfl) (by kernel_rfl) (by kernel_rfl) rfl rfl ?_
              refine Q.moveT rfl ?_
              refine WQ.done ?_
              refine WA.takeP (fuel := 13) 9 rfl (by kernel_rfl) (by kernel_rfl) (by kernel_rfl) rfl rfl ?_
              refine Q.moveT rfl ?_
              refine WQ.done ?_
              refine WA.two (fuel := 12) 4 10 rfl rfl (by kernel_rfl) rfl ?_ ?_
              ·
                skip
                refine S.indexOw (i := 1) hS6004 rfl Try.underlying32 ti2 rfl rfl (by omega) rfl ?_
                refine WS.done ⟨fun _ => hS6004, ?_⟩
                replace hC := hS6004
                refine WA.two (fuel := 11) 5 10 rfl rfl (by kernel_rfl) rfl ?_ ?_
                ·
                  skip
                  refine S.loadOw (i := 1) hS6004 rfl (fun _ _ => rfl) Try.underlying2 rfl rfl (hu) rfl rfl ?_
                  refine WS.done ⟨fun _ => hS6004, ?_⟩
                  replace hC := hS6004
                  refine WA.takeP (fuel := 10) 6 rfl (by kernel_rfl) (by kernel_rfl) (by kernel_rfl) rfl rfl ?_
                  first
                    | refine Q.addN rfl rfl rfl (by omega) ?_
                    | refine Q.add rfl rfl rfl ?_
                  refine WQ.done ?_
                  refine WA.one (fuel := 9) 10 rfl (by kernel_rfl) rfl ?_
                  refine S.indexOw (i := 1) hS6004 rfl Try.underlying32 ti2 rfl rfl (by omega) rfl ?_
                  refine WS.done ⟨fun _ => hS6004, ?_⟩
                  replace hC := hS6004
                  refine WA.one (fuel := 8) 11 rfl (by kernel_rfl) rfl ?_
                  refine S.loadOw (i := 1) hS6004 rfl (fun _ _ => rfl) Try.underlying2 rfl rfl (hu) rfl rfl ?_
                  refine WS.done ⟨fun _ => hS6004, ?_⟩
                  replace hC := hS6004
                  refine WA.one (fuel := 7) 12 rfl (by kernel_rfl) rfl ?_
                  first
                    | refine S.addN rfl rfl rfl (by omega) ?_
                    | refine S.add rfl rfl rfl ?_
                  refine WS.done ⟨fun _ => hS6004, ?_⟩
                  replace hC := hS6004
                  refine WA.one (fuel := 6) 13 rfl (by kernel_rfl) rfl ?_
                  first
                    | refine S.buildRow (vs := [.int _ _]) hS6004 Try.underlying32 ti2 rfl rfl rfl rfl rfl rfl rfl ?_
                    | refine S.buildRow hS6004 Try.underlying32 ti2 rfl rfl rfl rfl rfl rfl rfl ?_
                  intro b110 w110 hS110; clear hS6004
                  obtain ⟨R110, hR110, hro110, hSf110⟩ := hS110.keepRow (enc := encI .i64) (n := 1) [n + u] rfl (fun _ _ => rfl)
                  refine WS.done ⟨fun _ => (hSf110.weak hR110), ?_⟩
                  replace hC := (hSf110.weak hR110)
                  refine WA.one (fuel := 5) 14 rfl (by kernel_rfl) rfl ?_
                  refine S.call ent12 rfl (h_offer ((((hSf110.at_ (i := 1) rfl).at_ (i := 1) rfl).at_ (i := 3) rfl).at_ (i := 3) rfl) (by exact hA.hI) (by unfold fits; omega) (by exact hro110) (by intro z hz; rw [List.mem_singleton] at hz; subst hz; unfold fits; omega) (by simp)) rfl ?_
                  rintro _ w111 ⟨v111, rfl, hS111⟩
                  clear hSf110
                  have hz0 : (offer n1 256 m1 (n + u) [n + u]).2.1 = 0 := (all_step hA hN hu0 hu1 ⟨by omega, by omega⟩).1
                  have hA2 := (all_step hA hN hu0 hu1 ⟨by omega, by omega⟩).2
                  have hgl2 := hA2.glen hN
                  rw [List.length_append] at hgl2
                  refine S.as (d := 111) rfl (v' := .tuple #[v111, .int .i64 0]) (by rw [hz0]; rfl) ?_
                  refine WS.done ⟨fun h => absurd h (by decide), ?_⟩
                  refine WA.one (fuel := 4) 15 rfl (by kernel_rfl) rfl ?_
                  refine S.moveT rfl ?_
                  refine WS.done ⟨fun h => absurd h (by decide), ?_⟩
                  refine WA.takeP (fuel := 3) 16 rfl (by kernel_rfl) (by kernel_rfl) (by kernel_rfl) rfl rfl ?_
                  refine Q.extract rfl rfl rfl ?_
                  refine WQ.done ?_
                  refine WA.takeP (fuel := 2) 17 rfl (by kernel_rfl) (by kernel_rfl) (by kernel_rfl) rfl rfl ?_
                  refine Q.extract rfl rfl rfl ?_
                  refine WQ.done ?_
                  refine WA.one (fuel := 1) 18 rfl (by kernel_rfl) rfl ?_
                  refine S.assignT rfl ?_
                  refine WS.done ⟨fun h => absurd h (by decide), ?_⟩
                  refine WA.one (fuel := 0) 19 rfl (by kernel_rfl) rfl ?_
                  refine S.assignT rfl ?_
                  refine WS.done ⟨fun h => absurd h (by decide), ?_⟩
                  refine WA.done (by kernel_rfl) ?_
                  clear hC
                  refine WR.seq ?_
                  refine WR.region rfl ?_
                  refine S.moveT rfl ?_
                  refine S.moveT rfl ?_
                  refine S.appendOO (i := 2) hS111 rfl Try.underlying32 ti2 rfl rfl rfl rfl encI_one (by omega) rfl ?_
                  intro v116 w116 hS116; clear hS111
                  refine S.assignT rfl ?_
                  refine WS.done ?_
                  refine WR.seq ?_
                  refine WR.seq ?_
                  refine WR.region rfl ?_
                  refine S.moveT rfl ?_
                  refine WS.done ?_
                  refine WR.cond rfl (fun c117 => ?_) (fun c117 => ?_)
                  ·
                    skip
                    refine WR.seq ?_
                    refine WR.region rfl ?_
                    refine S.moveT rfl ?_
                    refine S.moveT rfl ?_
                    refine S.moveT rfl ?_
                    refine S.moveT rfl ?_
                    refine S.indexOw (i := 3) hS116 rfl Try.underlying32 ti2 rfl rfl (by omega) rfl ?_
                    refine S.loadOw (i := 3) hS116 rfl (fun _ _ => rfl) Try.underlying2 rfl rfl (hu) rfl rfl ?_
                    first
                      | refine S.addN rfl rfl rfl (by omega) ?_
                      | refine S.add rfl rfl rfl ?_
                    first
                      | refine S.buildRow (vs := [.int _ _]) hS116 Try.underlying32 ti2 rfl rfl rfl rfl rfl rfl rfl ?_
                      | refine S.buildRow hS116 Try.underlying32 ti2 rfl rfl rfl rfl rfl rfl rfl ?_
                    intro b126 w126 hS126; clear hS116
                    obtain ⟨R126, hR126, hro126, hSf126⟩ := hS126.keepRow (enc := encI .i64) (n := 1) [-1] rfl (fun _ _ => rfl)
                    replace hro110 := hro110.mono hR126
                    refine S.call ent12 rfl (h_offer hSf126 (by exact hA2.hI) (by unfold fits; omega) (by exact hro126) (by simp [fits]) (by simp)) rfl ?_
                    rintro _ w127 ⟨v127, rfl, hS127⟩
                    clear hSf126
                    have hold := all_old hA2 hu0 hu1 hN ⟨by omega, by omega⟩
                    refine S.as (d := 127) rfl (v' := .tuple #[v127, .int .i64 0]) (by rw [hold]; rfl) ?_
                    have hSo := hS127
                    rw [hold] at hSo
                    obtain ⟨RO, hRO, hroO, hSO⟩ := hSo.freeze (fun _ _ => rfl)
                    obtain ⟨fo, fc, rfl, hfo⟩ := hroO.len
                    skip
                    replace hro110 := hro110.mono hRO
                    replace hro126 := hro126.mono hRO
                    refine S.moveT rfl ?_
                    refine S.extract rfl rfl rfl ?_
                    refine S.extract rfl rfl rfl ?_
                    refine S.assignT rfl ?_
                    refine S.assignT rfl ?_
                    refine WS.done ?_
                    refine WR.region rfl ?_
                    refine S.moveT rfl ?_
                    refine S.moveT rfl ?_
                    refine S.lenSl Try.underlying32 rfl rfl ?_
                    first
                      | refine S.addN rfl rfl rfl (by omega) ?_
                      | refine S.add rfl rfl rfl ?_
                    refine S.assignT rfl ?_
                    refine WS.done ?_
                    refine WR.seq ?_
                    refine WR.region rfl ?_
                    refine S.moveT rfl ?_
                    refine S.neq rfl rfl rfl ?_
                    refine S.isFD (d := 135) rfl (by first | (simp; done) | (simp; decide)) ?_
                    refine WS.done ?_
                    refine WR.condF rfl ?_
                    refine WR.skip ?_
                    refine WR.region rfl ?_
                    refine S.moveT rfl ?_
                    first
                      | refine S.addN rfl rfl rfl (by omega) ?_
                      | refine S.add rfl rfl rfl ?_
                    refine S.assignT rfl ?_
                    refine WS.done ?_
                    exact ⟨_, (by omega), ⟨i + 1, _, _, _, v116, _, rfl, (by exact ⟨by omega, by rw [take_snoc' hu]; exact hA2, (by repeat (first | assumption | exact Kn.le.refl _ | refine Kn.le.trans ?_ (by assumption)))⟩), rfl, rfl, ⟨rfl, rfl, rfl, rfl, rfl, trivial⟩, ((((hSO.at_ (i := 1) rfl).at_ (i := 1) rfl).at_ (i := 3) rfl).at_ (i := 3) rfl)⟩⟩
                  ·
                    skip
                    refine WR.skip ?_
                    refine WR.seq ?_
                    refine WR.region rfl ?_
                    refine S.moveT rfl ?_
                    refine S.neq rfl rfl rfl ?_
                    refine S.isFD (d := 135) rfl (by first | (simp; done) | (simp; decide)) ?_
                    refine WS.done ?_
                    refine WR.condF rfl ?_
                    refine WR.skip ?_
                    refine WR.region rfl ?_
                    refine S.moveT rfl ?_
                    first
                      | refine S.addN rfl rfl rfl (by omega) ?_
                      | refine S.add rfl rfl rfl ?_
                    refine S.assignT rfl ?_
                    refine WS.done ?_
                    exact ⟨_, (by omega), ⟨i + 1, _, _, _, v116, _, rfl, (by exact ⟨by omega, by rw [take_snoc' hu]; exact hA2, (by repeat (first | assumption | exact Kn.le.refl _ | refine Kn.le.trans ?_ (by assumption)))⟩), rfl, rfl, ⟨rfl, rfl, rfl, rfl, rfl, trivial⟩, ((((hS116.at_ (i := 1) rfl).at_ (i := 1) rfl).at_ (i := 3) rfl).at_ (i := 3) rfl)⟩⟩
                ·
                  skip
                  refine S.indexOw (i := 1) hS6004 rfl Try.underlying32 ti2 rfl rfl (by omega) rfl ?_
                  refine WS.done ⟨fun _ => hS6004, ?_⟩
                  replace hC := hS6004
                  refine WA.two (fuel := 10) 5 11 rfl rfl (by kernel_rfl) rfl ?_ ?_
                  ·
                    skip
                    refine S.loadOw (i := 1) hS6004 rfl (fun _ _ => rfl) Try.underlying2 rfl rfl (hu) rfl rfl ?_
                    refine WS.done ⟨fun _ => hS6004, ?_⟩
                    replace hC := hS6004
                    refine WA.takeP (fuel := 9) 6 rfl (by kernel_rfl) (by kernel_rfl) (by kernel_rfl) rfl rfl ?_
                    first
                      | refine Q.addN rfl rfl rfl (by omega) ?_
                      | refine Q.add rfl rfl rfl ?_
                    refine WQ.done ?_
                    refine WA.one (fuel := 8) 11 rfl (by kernel_rfl) rfl ?_
                    refine S.loadOw (i := 1) hS6004 rfl (fun _ _ => rfl) Try.underlying2 rfl rfl (hu) rfl rfl ?_
                    refine WS.done ⟨fun _ => hS6004, ?_⟩
                    replace hC := hS6004
                    refine WA.one (fuel := 7) 12 rfl (by kernel_rfl) rfl ?_
                    first
                      | refine S.addN rfl rfl rfl (by omega) ?_
                      | refine S.add rfl rfl rfl ?_
                    refine WS.done ⟨fun _ => hS6004, ?_⟩
                    replace hC := hS6004
                    refine WA.one (fuel := 6) 13 rfl (by kernel_rfl) rfl ?_
                    first
                      | refine S.buildRow (vs := [.int _ _]) hS6004 Try.underlying32 ti2 rfl rfl rfl rfl rfl rfl rfl ?_
                      | refine S.buildRow hS6004 Try.underlying32 ti2 rfl rfl rfl rfl rfl rfl rfl ?_
                    intro b110 w110 hS110; clear hS6004
                    obtain ⟨R110, hR110, hro110, hSf110⟩ := hS110.keepRow (enc := encI .i64) (n := 1) [n + u] rfl (fun _ _ => rfl)
                    refine WS.done ⟨fun _ => (hSf110.weak hR110), ?_⟩
                    replace hC := (hSf110.weak hR110)
                    refine WA.one (fuel := 5) 14 rfl (by kernel_rfl) rfl ?_
                    refine S.call ent12 rfl (h_offer ((((hSf110.at_ (i := 1) rfl).at_ (i := 1) rfl).at_ (i := 3) rfl).at_ (i := 3) rfl) (by exact hA.hI) (by unfold fits; omega) (by exact hro110) (by intro z hz; rw [List.mem_singleton] at hz; subst hz; unfold fits; omega) (by simp)) rfl ?_
                    rintro _ w111 ⟨v111, rfl, hS111⟩
                    clear hSf110
                    have hz0 : (offer n1 256 m1 (n + u) [n + u]).2.1 = 0 := (all_step hA hN hu0 hu1 ⟨by omega, by omega⟩).1
                    have hA2 := (all_step hA hN hu0 hu1 ⟨by omega, by omega⟩).2
                    have hgl2 := hA2.glen hN
                    rw [List.length_append] at hgl2
                    refine S.as (d := 111) rfl (v' := .tuple #[v111, .int .i64 0]) (by rw [hz0]; rfl) ?_
                    refine WS.done ⟨fun h => absurd h (by decide), ?_⟩
                    refine WA.one (fuel := 4) 15 rfl (by kernel_rfl) rfl ?_
                    refine S.moveT rfl ?_
                    refine WS.done ⟨fun h => absurd h (by decide), ?_⟩
                    refine WA.takeP (fuel := 3) 16 rfl (by kernel_rfl) (by kernel_rfl) (by kernel_rfl) rfl rfl ?_
                    refine Q.extract rfl rfl rfl ?_
                    refine WQ.done ?_
                    refine WA.takeP (fuel := 2) 17 rfl (by kernel_rfl) (by kernel_rfl) (by kernel_rfl) rfl rfl ?_
                    refine Q.extract rfl rfl rfl ?_
                    refine WQ.done ?_
                    refine WA.one (fuel := 1) 18 rfl (by kernel_rfl) rfl ?_
                    refine S.assignT rfl ?_
                    refine WS.done ⟨fun h => absurd h (by decide), ?_⟩
                    refine WA.one (fuel := 0) 19 rfl (by kernel_rfl) rfl ?_
                    refine S.assignT rfl ?_
                    refine WS.done ⟨fun h => absurd h (by decide), ?_⟩
                    refine WA.done (by kernel_rfl) ?_
                    clear hC
                    refine WR.seq ?_
                    refine WR.region rfl ?_
                    refine S.moveT rfl ?_
                    refine S.moveT rfl ?_
                    refine S.appendOO (i := 2) hS111 rfl Try.underlying32 ti2 rfl rfl rfl rfl encI_one (by omega) rfl ?_
                    intro v116 w116 hS116; clear hS111
                    refine S.assignT rfl ?_
                    refine WS.done ?_
                    refine WR.seq ?_
                    refine WR.seq ?_
                    refine WR.region rfl ?_
                    refine S.moveT rfl ?_
                    refine WS.done ?_
                    refine WR.cond rfl (fun c117 => ?_) (fun c117 => ?_)
                    ·
                      skip
                      refine WR.seq ?_
                      refine WR.region rfl ?_
                      refine S.moveT rfl ?_
                      refine S.moveT rfl ?_
                      refine S.moveT rfl ?_
                      refine S.moveT rfl ?_
                      refine S.indexOw (i := 3) hS116 rfl Try.underlying32 ti2 rfl rfl (by omega) rfl ?_
                      refine S.loadOw (i := 3) hS116 rfl (fun _ _ => rfl) Try.underlying2 rfl rfl (hu) rfl rfl ?_
                      first
                        | refine S.addN rfl rfl rfl (by omega) ?_
                        | refine S.add rfl rfl rfl ?_
                      first
                        | refine S.buildRow (vs := [.int _ _]) hS116 Try.underlying32 ti2 rfl rfl rfl rfl rfl rfl rfl ?_
                        | refine S.buildRow hS116 Try.underlying32 ti2 rfl rfl rfl rfl rfl rfl rfl ?_
                      intro b126 w126 hS126; clear hS116
                      obtain ⟨R126, hR126, hro126, hSf126⟩ := hS126.keepRow (enc := encI .i64) (n := 1) [-1] rfl (fun _ _ => rfl)
                      replace hro110 := hro110.mono hR126
                      refine S.call ent12 rfl (h_offer hSf126 (by exact hA2.hI) (by unfold fits; omega) (by exact hro126) (by simp [fits]) (by simp)) rfl ?_
                      rintro _ w127 ⟨v127, rfl, hS127⟩
                      clear hSf126
                      have hold := all_old hA2 hu0 hu1 hN ⟨by omega, by omega⟩
                      refine S.as (d := 127) rfl (v' := .tuple #[v127, .int .i64 0]) (by rw [hold]; rfl) ?_
                      have hSo := hS127
                      rw [hold] at hSo
                      obtain ⟨RO, hRO, hroO, hSO⟩ := hSo.freeze (fun _ _ => rfl)
                      obtain ⟨fo, fc, rfl, hfo⟩ := hroO.len
                      skip
                      replace hro110 := hro110.mono hRO
                      replace hro126 := hro126.mono hRO
                      refine S.moveT rfl ?_
                      refine S.extract rfl rfl rfl ?_
                      refine S.extract rfl rfl rfl ?_
                      refine S.assignT rfl ?_
                      refine S.assignT rfl ?_
                      refine WS.done ?_
                      refine WR.region rfl ?_
                      refine S.moveT rfl ?_
                      refine S.moveT rfl ?_
                      refine S.lenSl Try.underlying32 rfl rfl ?_
                      first
                        | refine S.addN rfl rfl rfl (by omega) ?_
                        | refine S.add rfl rfl rfl ?_
                      refine S.assignT rfl ?_
                      refine WS.done ?_
                      refine WR.seq ?_
                      refine WR.region rfl ?_
                      refine S.moveT rfl ?_
                      refine S.neq rfl rfl rfl ?_
                      refine S.isFD (d := 135) rfl (by first | (simp; done) | (simp; decide)) ?_
                      refine WS.done ?_
                      refine WR.condF rfl ?_
                      refine WR.skip ?_
                      refine WR.region rfl ?_
                      refine S.moveT rfl ?_
                      first
                        | refine S.addN rfl rfl rfl (by omega) ?_
                        | refine S.add rfl rfl rfl ?_
                      refine S.assignT rfl ?_
                      refine WS.done ?_
                      exact ⟨_, (by omega), ⟨i + 1, _, _, _, v116, _, rfl, (by exact ⟨by omega, by rw [take_snoc' hu]; exact hA2, (by repeat (first | assumption | exact Kn.le.refl _ | refine Kn.le.trans ?_ (by assumption)))⟩), rfl, rfl, ⟨rfl, rfl, rfl, rfl, rfl, trivial⟩, ((((hSO.at_ (i := 1) rfl).at_ (i := 1) rfl).at_ (i := 3) rfl).at_ (i := 3) rfl)⟩⟩
                    ·
                      skip
                      refine WR.skip ?_
                      refine WR.seq ?_
                      refine WR.region rfl ?_
                      refine S.moveT rfl ?_
                      refine S.neq rfl rfl rfl ?_
                      refine S.isFD (d := 135) rfl (by first | (simp; done) | (simp; decide)) ?_
                      refine WS.done ?_
                      refine WR.condF rfl ?_
                      refine WR.skip ?_
                      refine WR.region rfl ?_
                      refine S.moveT rfl ?_
                      first
                        | refine S.addN rfl rfl rfl (by omega) ?_
                        | refine S.add rfl rfl rfl ?_
                      refine S.assignT rfl ?_
                      refine WS.done ?_
                      exact ⟨_, (by omega), ⟨i + 1, _, _, _, v116, _, rfl, (by exact ⟨by omega, by rw [take_snoc' hu]; exact hA2, (by repeat (first | assumption | exact Kn.le.refl _ | refine Kn.le.trans ?_ (by assumption)))⟩), rfl, rfl, ⟨rfl, rfl, rfl, rfl, rfl, trivial⟩, ((((hS116.at_ (i := 1) rfl).at_ (i := 1) rfl).at_ (i := 3) rfl).at_ (i := 3) rfl)⟩⟩
                  ·
                    skip
                    refine S.loadOw (i := 1) hS6004 rfl (fun _ _ => rfl) Try.underlying2 rfl rfl (hu) rfl rfl ?_
                    refine WS.done ⟨fun _ => hS6004, ?_⟩
                    replace hC := hS6004
                    refine WA.takeP (fuel := 9) 12 rfl (by kernel_rfl) (by kernel_rfl) (by kernel_rfl) rfl rfl ?_
                    first
                      | refine Q.addN rfl rfl rfl (by omega) ?_
                      | refine Q.add rfl rfl rfl ?_
                    refine WQ.done ?_
                    refine WA.two (fuel := 8) 5 13 rfl rfl (by kernel_rfl) rfl ?_ ?_
                    ·
                      skip
                      refine S.loadOw (i := 1) hS6004 rfl (fun _ _ => rfl) Try.underlying2 rfl rfl (hu) rfl rfl ?_
                      refine WS.done ⟨fun _ => hS6004, ?_⟩
                      replace hC := hS6004
                      refine WA.takeP (fuel := 7) 6 rfl (by kernel_rfl) (by kernel_rfl) (by kernel_rfl) rfl rfl ?_
                      first
                        | refine Q.addN rfl rfl rfl (by omega) ?_
                        | refine Q.add rfl rfl rfl ?_
                      refine WQ.done ?_
                      refine WA.one (fuel := 6) 13 rfl (by kernel_rfl) rfl ?_
                      first
                        | refine S.buildRow (vs := [.int _ _]) hS6004 Try.underlying32 ti2 rfl rfl rfl rfl rfl rfl rfl ?_
                        | refine S.buildRow hS6004 Try.underlying32 ti2 rfl rfl rfl rfl rfl rfl rfl ?_
                      intro b110 w110 hS110; clear hS6004
                      obtain ⟨R110, hR110, hro110, hSf110⟩ := hS110.keepRow (enc := encI .i64) (n := 1) [n + u] rfl (fun _ _ => rfl)
                      refine WS.done ⟨fun _ => (hSf110.weak hR110), ?_⟩
                      replace hC := (hSf110.weak hR110)
                      refine WA.one (fuel := 5) 14 rfl (by kernel_rfl) rfl ?_
                      refine S.call ent12 rfl (h_offer ((((hSf110.at_ (i := 1) rfl).at_ (i := 1) rfl).at_ (i := 3) rfl).at_ (i := 3) rfl) (by exact hA.hI) (by unfold fits; omega) (by exact hro110) (by intro z hz; rw [List.mem_singleton] at hz; subst hz; unfold fits; omega) (by simp)) rfl ?_
                      rintro _ w111 ⟨v111, rfl, hS111⟩
                      clear hSf110
                      have hz0 : (offer n1 256 m1 (n + u) [n + u]).2.1 = 0 := (all_step hA hN hu0 hu1 ⟨by omega, by omega⟩).1
                      have hA2 := (all_step hA hN hu0 hu1 ⟨by omega, by omega⟩).2
                      have hgl2 := hA2.glen hN
                      rw [List.length_append] at hgl2
                      refine S.as (d := 111) rfl (v' := .tuple #[v111, .int .i64 0]) (by rw [hz0]; rfl) ?_
                      refine WS.done ⟨fun h => absurd h (by decide), ?_⟩
                      refine WA.one (fuel := 4) 15 rfl (by kernel_rfl) rfl ?_
                      refine S.moveT rfl ?_
                      refine WS.done ⟨fun h => absurd h (by decide), ?_⟩
                      refine WA.takeP (fuel := 3) 16 rfl (by kernel_rfl) (by kernel_rfl) (by kernel_rfl) rfl rfl ?_
                      refine Q.extract rfl rfl rfl ?_
                      refine WQ.done ?_
                      refine WA.takeP (fuel := 2) 17 rfl (by kernel_rfl) (by kernel_rfl) (by kernel_rfl) rfl rfl ?_
                      refine Q.extract rfl rfl rfl ?_
                      refine WQ.done ?_
                      refine WA.one (fuel := 1) 18 rfl (by kernel_rfl) rfl ?_
                      refine S.assignT rfl ?_
                      refine WS.done ⟨fun h => absurd h (by decide), ?_⟩
                      refine WA.one (fuel := 0) 19 rfl (by kernel_rfl) rfl ?_
                      refine S.assignT rfl ?_
                      refine WS.done ⟨fun h => absurd h (by decide), ?_⟩
                      refine WA.done (by kernel_rfl) ?_
                      clear hC
                      refine WR.seq ?_
                      refine WR.region rfl ?_
                      refine S.moveT rfl ?_
                      refine S.moveT rfl ?_
                      refine S.appendOO (i := 2) hS111 rfl Try.underlying32 ti2 rfl rfl rfl rfl encI_one (by omega) rfl ?_
                      intro v116 w116 hS116; clear hS111
                      refine S.assignT rfl ?_
                      refine WS.done ?_
                      refine WR.seq ?_
                      refine WR.seq ?_
                      refine WR.region rfl ?_
                      refine S.moveT rfl ?_
                      refine WS.done ?_
                      refine WR.cond rfl (fun c117 => ?_) (fun c117 => ?_)
                      ·
                        skip
                        refine WR.seq ?_
                        refine WR.region rfl ?_
                        refine S.moveT rfl ?_
                        refine S.moveT rfl ?_
                        refine S.moveT rfl ?_
                        refine S.moveT rfl ?_
                        refine S.indexOw (i := 3) hS116 rfl Try.underlying32 ti2 rfl rfl (by omega) rfl ?_
                        refine S.loadOw (i := 3) hS116 rfl (fun _ _ => rfl) Try.underlying2 rfl rfl (hu) rfl rfl ?_
                        first
                          | refine S.addN rfl rfl rfl (by omega) ?_
                          | refine S.add rfl rfl rfl ?_
                        first
                          | refine S.buildRow (vs := [.int _ _]) hS116 Try.underlying32 ti2 rfl rfl rfl rfl rfl rfl rfl ?_
                          | refine S.buildRow hS116 Try.underlying32 ti2 rfl rfl rfl rfl rfl rfl rfl ?_
                        intro b126 w126 hS126; clear hS116
                        obtain ⟨R126, hR126, hro126, hSf126⟩ := hS126.keepRow (enc := encI .i64) (n := 1) [-1] rfl (fun _ _ => rfl)
                        replace hro110 := hro110.mono hR126
                        refine S.call ent12 rfl (h_offer hSf126 (by exact hA2.hI) (by unfold fits; omega) (by exact hro126) (by simp [fits]) (by simp)) rfl ?_
                        rintro _ w127 ⟨v127, rfl, hS127⟩
                        clear hSf126
                        have hold := all_old hA2 hu0 hu1 hN ⟨by omega, by omega⟩
                        refine S.as (d := 127) rfl (v' := .tuple #[v127, .int .i64 0]) (by rw [hold]; rfl) ?_
                        have hSo := hS127
                        rw [hold] at hSo
                        obtain ⟨RO, hRO, hroO, hSO⟩ := hSo.freeze (fun _ _ => rfl)
                        obtain ⟨fo, fc, rfl, hfo⟩ := hroO.len
                        skip
                        replace hro110 := hro110.mono hRO
                        replace hro126 := hro126.mono hRO
                        refine S.moveT rfl ?_
                        refine S.extract rfl rfl rfl ?_
                        refine S.extract rfl rfl rfl ?_
                        refine S.assignT rfl ?_
                        refine S.assignT rfl ?_
                        refine WS.done ?_
                        refine WR.region rfl ?_
                        refine S.moveT rfl ?_
                        refine S.moveT rfl ?_
                        refine S.lenSl Try.underlying32 rfl rfl ?_
                        first
                          | refine S.addN rfl rfl rfl (by omega) ?_
                          | refine S.add rfl rfl rfl ?_
                        refine S.assignT rfl ?_
                        refine WS.done ?_
                        refine WR.seq ?_
                        refine WR.region rfl ?_
                        refine S.moveT rfl ?_
                        refine S.neq rfl rfl rfl ?_
                        refine S.isFD (d := 135) rfl (by first | (simp; done) | (simp; decide)) ?_
                        refine WS.done ?_
                        refine WR.condF rfl ?_
                        refine WR.skip ?_
                        refine WR.region rfl ?_
                        refine S.moveT rfl ?_
                        first
                          | refine S.addN rfl rfl rfl (by omega) ?_
                          | refine S.add rfl rfl rfl ?_
                        refine S.assignT rfl ?_
                        refine WS.done ?_
                        exact ⟨_, (by omega), ⟨i + 1, _, _, _, v116, _, rfl, (by exact ⟨by omega, by rw [take_snoc' hu]; exact hA2, (by repeat (first | assumption | exact Kn.le.refl _ | refine Kn.le.trans ?_ (by assumption)))⟩), rfl, rfl, ⟨rfl, rfl, rfl, rfl, rfl, trivial⟩, ((((hSO.at_ (i := 1) rfl).at_ (i := 1) rfl).at_ (i := 3) rfl).at_ (i := 3) rfl)⟩⟩
                      ·
                        skip
                        refine WR.skip ?_
                        refine WR.seq ?_
                        refine WR.region rfl ?_
                        refine S.moveT rfl ?_
                        refine S.neq rfl rfl rfl ?_
                        refine S.isFD (d := 135) rfl (by first | (simp; done) | (simp; decide)) ?_
                        refine WS.done ?_
                        refine WR.condF rfl ?_
                        refine WR.skip ?_
                        refine WR.region rfl ?_
                        refine S.moveT rfl ?_
                        first
                          | refine S.addN rfl rfl rfl (by omega) ?_
                          | refine S.add rfl rfl rfl ?_
                        refine S.assignT rfl ?_
                        refine WS.done ?_
                        exact ⟨_, (by omega), ⟨i + 1, _, _, _, v116, _, rfl, (by exact ⟨by omega, by rw [take_snoc' hu]; exact hA2, (by repeat (first | assumption | exact Kn.le.refl _ | refine Kn.le.trans ?_ (by assumption)))⟩), rfl, rfl, ⟨rfl, rfl, rfl, rfl, rfl, trivial⟩, ((((hS116.at_ (i := 1) rfl).at_ (i := 1) rfl).at_ (i := 3) rfl).at_ (i := 3) rfl)⟩⟩
                    ·
                      skip
                      first
                        | refine S.buildRow (vs := [.int _ _]) hS6004 Try.underlying32 ti2 rfl rfl rfl rfl rfl rfl rfl ?_
                        | refine S.buildRow hS6004 Try.underlying32 ti2 rfl rfl rfl rfl rfl rfl rfl ?_
                      intro b110 w110 hS110; clear hS6004
                      obtain ⟨R110, hR110, hro110, hSf110⟩ := hS110.keepRow (enc := encI .i64) (n := 1) [n + u] rfl (fun _ _ => rfl)
                      refine WS.done ⟨fun _ => (hSf110.weak hR110), ?_⟩
                      replace hC := (hSf110.weak hR110)
                      refine WA.one (fuel := 7) 5 rfl (by kernel_rfl) rfl ?_
                      refine S.loadOw (i := 1) hSf110 rfl (fun _ _ => rfl) Try.underlying2 rfl rfl (hu) rfl rfl ?_
                      refine WS.done ⟨fun _ => (hSf110.weak hR110), ?_⟩
                      replace hC := (hSf110.weak hR110)
                      refine WA.one (fuel := 6) 6 rfl (by kernel_rfl) rfl ?_
                      first
                        | refine S.addN rfl rfl rfl (by omega) ?_
                        | refine S.add rfl rfl rfl ?_
                      refine WS.done ⟨fun _ => (hSf110.weak hR110), ?_⟩
                      replace hC := (hSf110.weak hR110)
                      refine WA.one (fuel := 5) 14 rfl (by kernel_rfl) rfl ?_
                      refine S.call ent12 rfl (h_offer ((((hSf110.at_ (i := 1) rfl).at_ (i := 1) rfl).at_ (i := 3) rfl).at_ (i := 3) rfl) (by exact hA.hI) (by unfold fits; omega) (by exact hro110) (by intro z hz; rw [List.mem_singleton] at hz; subst hz; unfold fits; omega) (by simp)) rfl ?_
                      rintro _ w111 ⟨v111, rfl, hS111⟩
                      clear hSf110
                      have hz0 : (offer n1 256 m1 (n + u) [n + u]).2.1 = 0 := (all_step hA hN hu0 hu1 ⟨by omega, by omega⟩).1
                      have hA2 := (all_step hA hN hu0 hu1 ⟨by omega, by omega⟩).2
                      have hgl2 := hA2.glen hN
                      rw [List.length_append] at hgl2
                      refine S.as (d := 111) rfl (v' := .tuple #[v111, .int .i64 0]) (by rw [hz0]; rfl) ?_
                      refine WS.done ⟨fun h => absurd h (by decide), ?_⟩
                      refine WA.one (fuel := 4) 15 rfl (by kernel_rfl) rfl ?_
                      refine S.moveT rfl ?_
                      refine WS.done ⟨fun h => absurd h (by decide), ?_⟩
                      refine WA.takeP (fuel := 3) 16 rfl (by kernel_rfl) (by kernel_rfl) (by kernel_rfl) rfl rfl ?_
                      refine Q.extract rfl rfl rfl ?_
                      refine WQ.done ?_
                      refine WA.takeP (fuel := 2) 17 rfl (by kernel_rfl) (by kernel_rfl) (by kernel_rfl) rfl rfl ?_
                      refine Q.extract rfl rfl rfl ?_
                      refine WQ.done ?_
                      refine WA.one (fuel := 1) 18 rfl (by kernel_rfl) rfl ?_
                      refine S.assignT rfl ?_
                      refine WS.done ⟨fun h => absurd h (by decide), ?_⟩
                      refine WA.one (fuel := 0) 19 rfl (by kernel_rfl) rfl ?_
                      refine S.assignT rfl ?_
                      refine WS.done ⟨fun h => absurd h (by decide), ?_⟩
                      refine WA.done (by kernel_rfl) ?_
                      clear hC
                      refine WR.seq ?_
                      refine WR.region rfl ?_
                      refine S.moveT rfl ?_
                      refine S.moveT rfl ?_
                      refine S.appendOO (i := 2) hS111 rfl Try.underlying32 ti2 rfl rfl rfl rfl encI_one (by omega) rfl ?_
                      intro v116 w116 hS116; clear hS111
                      refine S.assignT rfl ?_
                      refine WS.done ?_
                      refine WR.seq ?_
                      refine WR.seq ?_
                      refine WR.region rfl ?_
                      refine S.moveT rfl ?_
                      refine WS.done ?_
                      refine WR.cond rfl (fun c117 => ?_) (fun c117 => ?_)
                      ·
                        skip
                        refine WR.seq ?_
                        refine WR.region rfl ?_
                        refine S.moveT rfl ?_
                        refine S.moveT rfl ?_
                        refine S.moveT rfl ?_
                        refine S.moveT rfl ?_
                        refine S.indexOw (i := 3) hS116 rfl Try.underlying32 ti2 rfl rfl (by omega) rfl ?_
                        refine S.loadOw (i := 3) hS116 rfl (fun _ _ => rfl) Try.underlying2 rfl rfl (hu) rfl rfl ?_
                        first
                          | refine S.addN rfl rfl rfl (by omega) ?_
                          | refine S.add rfl rfl rfl ?_
                        first
                          | refine S.buildRow (vs := [.int _ _]) hS116 Try.underlying32 ti2 rfl rfl rfl rfl rfl rfl rfl ?_
                          | refine S.buildRow hS116 Try.underlying32 ti2 rfl rfl rfl rfl rfl rfl rfl ?_
                        intro b126 w126 hS126; clear hS116
                        obtain ⟨R126, hR126, hro126, hSf126⟩ := hS126.keepRow (enc := encI .i64) (n := 1) [-1] rfl (fun _ _ => rfl)
                        replace hro110 := hro110.mono hR126
                        refine S.call ent12 rfl (h_offer hSf126 (by exact hA2.hI) (by unfold fits; omega) (by exact hro126) (by simp [fits]) (by simp)) rfl ?_
                        rintro _ w127 ⟨v127, rfl, hS127⟩
                        clear hSf126
                        have hold := all_old hA2 hu0 hu1 hN ⟨by omega, by omega⟩
                        refine S.as (d := 127) rfl (v' := .tuple #[v127, .int .i64 0]) (by rw [hold]; rfl) ?_
                        have hSo := hS127
                        rw [hold] at hSo
                        obtain ⟨RO, hRO, hroO, hSO⟩ := hSo.freeze (fun _ _ => rfl)
                        obtain ⟨fo, fc, rfl, hfo⟩ := hroO.len
                        skip
                        replace hro110 := hro110.mono hRO
                        replace hro126 := hro126.mono hRO
                        refine S.moveT rfl ?_
                        refine S.extract rfl rfl rfl ?_
                        refine S.extract rfl rfl rfl ?_
                        refine S.assignT rfl ?_
                        refine S.assignT rfl ?_
                        refine WS.done ?_
                        refine WR.region rfl ?_
                        refine S.moveT rfl ?_
                        refine S.moveT rfl ?_
                        refine S.lenSl Try.underlying32 rfl rfl ?_
                        first
                          | refine S.addN rfl rfl rfl (by omega) ?_
                          | refine S.add rfl rfl rfl ?_
                        refine S.assignT rfl ?_
                        refine WS.done ?_
                        refine WR.seq ?_
                        refine WR.region rfl ?_
                        refine S.moveT rfl ?_
                        refine S.neq rfl rfl rfl ?_
                        refine S.isFD (d := 135) rfl (by first | (simp; done) | (simp; decide)) ?_
                        refine WS.done ?_
                        refine WR.condF rfl ?_
                        refine WR.skip ?_
                        refine WR.region rfl ?_
                        refine S.moveT rfl ?_
                        first
                          | refine S.addN rfl rfl rfl (by omega) ?_
                          | refine S.add rfl rfl rfl ?_
                        refine S.assignT rfl ?_
                        refine WS.done ?_
                        exact ⟨_, (by omega), ⟨i + 1, _, _, _, v116, _, rfl, (by exact ⟨by omega, by rw [take_snoc' hu]; exact hA2, (by repeat (first | assumption | exact Kn.le.refl _ | refine Kn.le.trans ?_ (by assumption)))⟩), rfl, rfl, ⟨rfl, rfl, rfl, rfl, rfl, trivial⟩, ((((hSO.at_ (i := 1) rfl).at_ (i := 1) rfl).at_ (i := 3) rfl).at_ (i := 3) rfl)⟩⟩
                      ·
                        skip
                        refine WR.skip ?_
                        refine WR.seq ?_
                        refine WR.region rfl ?_
                        refine S.moveT rfl ?_
                        refine S.neq rfl rfl rfl ?_
                        refine S.isFD (d := 135) rfl (by first | (simp; done) | (simp; decide)) ?_
                        refine WS.done ?_
                        refine WR.condF rfl ?_
                        refine WR.skip ?_
                        refine WR.region rfl ?_
                        refine S.moveT rfl ?_
                        first
                          | refine S.addN rfl rfl rfl (by omega) ?_
                          | refine S.add rfl rfl rfl ?_
                        refine S.assignT rfl ?_
                        refine WS.done ?_
                        exact ⟨_, (by omega), ⟨i + 1, _, _, _, v116, _, rfl, (by exact ⟨by omega, by rw [take_snoc' hu]; exact hA2, (by repeat (first | assumption | exact Kn.le.refl _ | refine Kn.le.trans ?_ (by assumption)))⟩), rfl, rfl, ⟨rfl, rfl, rfl, rfl, rfl, trivial⟩, ((((hS116.at_ (i := 1) rfl).at_ (i := 1) rfl).at_ (i := 3) rfl).at_ (i := 3) rfl)⟩⟩
              ·
                skip
                refine S.indexOw (i := 1) hS6004 rfl Try.underlying32 ti2 rfl rfl (by omega) rfl ?_
                refine WS.done ⟨fun _ => hS6004, ?_⟩
                replace hC := hS6004
                refine WA.two (fuel := 11) 4 11 rfl rfl (by kernel_rfl) rfl ?_ ?_
                ·
                  skip
                  refine S.indexOw (i := 1) hS6004 rfl Try.underlying32 ti2 rfl rfl (by omega) rfl ?_
                  refine WS.done ⟨fun _ => hS6004, ?_⟩
                  replace hC := hS6004
                  refine WA.two (fuel := 10) 5 11 rfl rfl (by kernel_rfl) rfl ?_ ?_
                  ·
                    skip
                    refine S.loadOw (i := 1) hS6004 rfl (fun _ _ => rfl) Try.underlying2 rfl rfl (hu) rfl rfl ?_
                    refine WS.done ⟨fun _ => hS6004, ?_⟩
                    replace hC := hS6004
                    refine WA.takeP (fuel := 9) 6 rfl (by kernel_rfl) (by kernel_rfl) (by kernel_rfl) rfl rfl ?_
                    first
                      | refine Q.addN rfl rfl rfl (by omega) ?_
                      | refine Q.add rfl rfl rfl ?_
                    refine WQ.done ?_
                    refine WA.one (fuel := 8) 11 rfl (by kernel_rfl) rfl ?_
                    refine S.loadOw (i := 1) hS6004 rfl (fun _ _ => rfl) Try.underlying2 rfl rfl (hu) rfl rfl ?_
                    refine WS.done ⟨fun _ => hS6004, ?_⟩
                    replace hC := hS6004
                    refine WA.one (fuel := 7) 12 rfl (by kernel_rfl) rfl ?_
                    first
                      | refine S.addN rfl rfl rfl (by omega) ?_
                      | refine S.add rfl rfl rfl ?_
                    refine WS.done ⟨fun _ => hS6004, ?_⟩
                    replace hC := hS6004
                    refine WA.one (fuel := 6) 13 rfl (by kernel_rfl) rfl ?_
                    first
                      | refine S.buildRow (vs := [.int _ _]) hS6004 Try.underlying32 ti2 rfl rfl rfl rfl rfl rfl rfl ?_
                      | refine S.buildRow hS6004 Try.underlying32 ti2 rfl rfl rfl rfl rfl rfl rfl ?_
                    intro b110 w110 hS110; clear hS6004
                    obtain ⟨R110, hR110, hro110, hSf110⟩ := hS110.keepRow (enc := encI .i64) (n := 1) [n + u] rfl (fun _ _ => rfl)
                    refine WS.done ⟨fun _ => (hSf110.weak hR110), ?_⟩
                    replace hC := (hSf110.weak hR110)
                    refine WA.one (fuel := 5) 14 rfl (by kernel_rfl) rfl ?_
                    refine S.call ent12 rfl (h_offer ((((hSf110.at_ (i := 1) rfl).at_ (i := 1) rfl).at_ (i := 3) rfl).at_ (i := 3) rfl) (by exact hA.hI) (by unfold fits; omega) (by exact hro110) (by intro z hz; rw [List.mem_singleton] at hz; subst hz; unfold fits; omega) (by simp)) rfl ?_
                    rintro _ w111 ⟨v111, rfl, hS111⟩
                    clear hSf110
                    have hz0 : (offer n1 256 m1 (n + u) [n + u]).2.1 = 0 := (all_step hA hN hu0 hu1 ⟨by omega, by omega⟩).1
                    have hA2 := (all_step hA hN hu0 hu1 ⟨by omega, by omega⟩).2
                    have hgl2 := hA2.glen hN
                    rw [List.length_append] at hgl2
                    refine S.as (d := 111) rfl (v' := .tuple #[v111, .int .i64 0]) (by rw [hz0]; rfl) ?_
                    refine WS.done ⟨fun h => absurd h (by decide), ?_⟩
                    refine WA.one (fuel := 4) 15 rfl (by kernel_rfl) rfl ?_
                    refine S.moveT rfl ?_
                    refine WS.done ⟨fun h => absurd h (by decide), ?_⟩
                    refine WA.takeP (fuel := 3) 16 rfl (by kernel_rfl) (by kernel_rfl) (by kernel_rfl) rfl rfl ?_
                    refine Q.extract rfl rfl rfl ?_
                    refine WQ.done ?_
                    refine WA.takeP (fuel := 2) 17 rfl (by kernel_rfl) (by kernel_rfl) (by kernel_rfl) rfl rfl ?_
                    refine Q.extract rfl rfl rfl ?_
                    refine WQ.done ?_
                    refine WA.one (fuel := 1) 18 rfl (by kernel_rfl) rfl ?_
                    refine S.assignT rfl ?_
                    refine WS.done ⟨fun h => absurd h (by decide), ?_⟩
                    refine WA.one (fuel := 0) 19 rfl (by kernel_rfl) rfl ?_
                    refine S.assignT rfl ?_
                    refine WS.done ⟨fun h => absurd h (by decide), ?_⟩
                    refine WA.done (by kernel_rfl) ?_
                    clear hC
                    refine WR.seq ?_
                    refine WR.region rfl ?_
                    refine S.moveT rfl ?_
                    refine S.moveT rfl ?_
                    refine S.appendOO (i := 2) hS111 rfl Try.underlying32 ti2 rfl rfl rfl rfl encI_one (by omega) rfl ?_
                    intro v116 w116 hS116; clear hS111
                    refine S.assignT rfl ?_
                    refine WS.done ?_
                    refine WR.seq ?_
                    refine WR.seq ?_
                    refine WR.region rfl ?_
                    refine S.moveT rfl ?_
                    refine WS.done ?_
                    refine WR.cond rfl (fun c117 => ?_) (fun c117 => ?_)
                    ·
                      skip
                      refine WR.seq ?_
                      refine WR.region rfl ?_
                      refine S.moveT rfl ?_
                      refine S.moveT rfl ?_
                      refine S.moveT rfl ?_
                      refine S.moveT rfl ?_
                      refine S.indexOw (i := 3) hS116 rfl Try.underlying32 ti2 rfl rfl (by omega) rfl ?_
                      refine S.loadOw (i := 3) hS116 rfl (fun _ _ => rfl) Try.underlying2 rfl rfl (hu) rfl rfl ?_
                      first
                        | refine S.addN rfl rfl rfl (by omega) ?_
                        | refine S.add rfl rfl rfl ?_
                      first
                        | refine S.buildRow (vs := [.int _ _]) hS116 Try.underlying32 ti2 rfl rfl rfl rfl rfl rfl rfl ?_
                        | refine S.buildRow hS116 Try.underlying32 ti2 rfl rfl rfl rfl rfl rfl rfl ?_
                      intro b126 w126 hS126; clear hS116
                      obtain ⟨R126, hR126, hro126, hSf126⟩ := hS126.keepRow (enc := encI .i64) (n := 1) [-1] rfl (fun _ _ => rfl)
                      replace hro110 := hro110.mono hR126
                      refine S.call ent12 rfl (h_offer hSf126 (by exact hA2.hI) (by unfold fits; omega) (by exact hro126) (by simp [fits]) (by simp)) rfl ?_
                      rintro _ w127 ⟨v127, rfl, hS127⟩
                      clear hSf126
                      have hold := all_old hA2 hu0 hu1 hN ⟨by omega, by omega⟩
                      refine S.as (d := 127) rfl (v' := .tuple #[v127, .int .i64 0]) (by rw [hold]; rfl) ?_
                      have hSo := hS127
                      rw [hold] at hSo
                      obtain ⟨RO, hRO, hroO, hSO⟩ := hSo.freeze (fun _ _ => rfl)
                      obtain ⟨fo, fc, rfl, hfo⟩ := hroO.len
                      skip
                      replace hro110 := hro110.mono hRO
                      replace hro126 := hro126.mono hRO
                      refine S.moveT rfl ?_
                      refine S.extract rfl rfl rfl ?_
                      refine S.extract rfl rfl rfl ?_
                      refine S.assignT rfl ?_
                      refine S.assignT rfl ?_
                      refine WS.done ?_
                      refine WR.region rfl ?_
                      refine S.moveT rfl ?_
                      refine S.moveT rfl ?_
                      refine S.lenSl Try.underlying32 rfl rfl ?_
                      first
                        | refine S.addN rfl rfl rfl (by omega) ?_
                        | refine S.add rfl rfl rfl ?_
                      refine S.assignT rfl ?_
                      refine WS.done ?_
                      refine WR.seq ?_
                      refine WR.region rfl ?_
                      refine S.moveT rfl ?_
                      refine S.neq rfl rfl rfl ?_
                      refine S.isFD (d := 135) rfl (by first | (simp; done) | (simp; decide)) ?_
                      refine WS.done ?_
                      refine WR.condF rfl ?_
                      refine WR.skip ?_
                      refine WR.region rfl ?_
                      refine S.moveT rfl ?_
                      first
                        | refine S.addN rfl rfl rfl (by omega) ?_
                        | refine S.add rfl rfl rfl ?_
                      refine S.assignT rfl ?_
                      refine WS.done ?_
                      exact ⟨_, (by omega), ⟨i + 1, _, _, _, v116, _, rfl, (by exact ⟨by omega, by rw [take_snoc' hu]; exact hA2, (by repeat (first | assumption | exact Kn.le.refl _ | refine Kn.le.trans ?_ (by assumption)))⟩), rfl, rfl, ⟨rfl, rfl, rfl, rfl, rfl, trivial⟩, ((((hSO.at_ (i := 1) rfl).at_ (i := 1) rfl).at_ (i := 3) rfl).at_ (i := 3) rfl)⟩⟩
                    ·
                      skip
                      refine WR.skip ?_
                      refine WR.seq ?_
                      refine WR.region rfl ?_
                      refine S.moveT rfl ?_
                      refine S.neq rfl rfl rfl ?_
                      refine S.isFD (d := 135) rfl (by first | (simp; done) | (simp; decide)) ?_
                      refine WS.done ?_
                      refine WR.condF rfl ?_
                      refine WR.skip ?_
                      refine WR.region rfl ?_
                      refine S.moveT rfl ?_
                      first
                        | refine S.addN rfl rfl rfl (by omega) ?_
                        | refine S.add rfl rfl rfl ?_
                      refine S.assignT rfl ?_
                      refine WS.done ?_
                      exact ⟨_, (by omega), ⟨i + 1, _, _, _, v116, _, rfl, (by exact ⟨by omega, by rw [take_snoc' hu]; exact hA2, (by repeat (first | assumption | exact Kn.le.refl _ | refine Kn.le.trans ?_ (by assumption)))⟩), rfl, rfl, ⟨rfl, rfl, rfl, rfl, rfl, trivial⟩, ((((hS116.at_ (i := 1) rfl).at_ (i := 1) rfl).at_ (i := 3) rfl).at_ (i := 3) rfl)⟩⟩
                  ·
                    skip
                    refine S.loadOw (i := 1) hS6004 rfl (fun _ _ => rfl) Try.underlying2 rfl rfl (hu) rfl rfl ?_
                    refine WS.done ⟨fun _ => hS6004, ?_⟩
                    replace hC := hS6004
                    refine WA.takeP (fuel := 9) 12 rfl (by kernel_rfl) (by kernel_rfl) (by kernel_rfl) rfl rfl ?_
                    first
                      | refine Q.addN rfl rfl rfl (by omega) ?_
                      | refine Q.add rfl rfl rfl ?_
                    refine WQ.done ?_
                    refine WA.two (fuel := 8) 5 13 rfl rfl (by kernel_rfl) rfl ?_ ?_
                    ·
                      skip
                      refine S.loadOw (i := 1) hS6004 rfl (fun _ _ => rfl) Try.underlying2 rfl rfl (hu) rfl rfl ?_
                      refine WS.done ⟨fun _ => hS6004, ?_⟩
                      replace hC := hS6004
                      refine WA.takeP (fuel := 7) 6 rfl (by kernel_rfl) (by kernel_rfl) (by kernel_rfl) rfl rfl ?_
                      first
                        | refine Q.addN rfl rfl rfl (by omega) ?_
                        | refine Q.add rfl rfl rfl ?_
                      refine WQ.done ?_
                      refine WA.one (fuel := 6) 13 rfl (by kernel_rfl) rfl ?_
                      first
                        | refine S.buildRow (vs := [.int _ _]) hS6004 Try.underlying32 ti2 rfl rfl rfl rfl rfl rfl rfl ?_
                        | refine S.buildRow hS6004 Try.underlying32 ti2 rfl rfl rfl rfl rfl rfl rfl ?_
                      intro b110 w110 hS110; clear hS6004
                      obtain ⟨R110, hR110, hro110, hSf110⟩ := hS110.keepRow (enc := encI .i64) (n := 1) [n + u] rfl (fun _ _ => rfl)
                      refine WS.done ⟨fun _ => (hSf110.weak hR110), ?_⟩
                      replace hC := (hSf110.weak hR110)
                      refine WA.one (fuel := 5) 14 rfl (by kernel_rfl) rfl ?_
                      refine S.call ent12 rfl (h_offer ((((hSf110.at_ (i := 1) rfl).at_ (i := 1) rfl).at_ (i := 3) rfl).at_ (i := 3) rfl) (by exact hA.hI) (by unfold fits; omega) (by exact hro110) (by intro z hz; rw [List.mem_singleton] at hz; subst hz; unfold fits; omega) (by simp)) rfl ?_
                      rintro _ w111 ⟨v111, rfl, hS111⟩
                      clear hSf110
                      have hz0 : (offer n1 256 m1 (n + u) [n + u]).2.1 = 0 := (all_step hA hN hu0 hu1 ⟨by omega, by omega⟩).1
                      have hA2 := (all_step hA hN hu0 hu1 ⟨by omega, by omega⟩).2
                      have hgl2 := hA2.glen hN
                      rw [List.length_append] at hgl2
                      refine S.as (d := 111) rfl (v' := .tuple #[v111, .int .i64 0]) (by rw [hz0]; rfl) ?_
                      refine WS.done ⟨fun h => absurd h (by decide), ?_⟩
                      refine WA.one (fuel := 4) 15 rfl (by kernel_rfl) rfl ?_
                      refine S.moveT rfl ?_
                      refine WS.done ⟨fun h => absurd h (by decide), ?_⟩
                      refine WA.takeP (fuel := 3) 16 rfl (by kernel_rfl) (by kernel_rfl) (by kernel_rfl) rfl rfl ?_
                      refine Q.extract rfl rfl rfl ?_
                      refine WQ.done ?_
                      refine WA.takeP (fuel := 2) 17 rfl (by kernel_rfl) (by kernel_rfl) (by kernel_rfl) rfl rfl ?_
                      refine Q.extract rfl rfl rfl ?_
                      refine WQ.done ?_
                      refine WA.one (fuel := 1) 18 rfl (by kernel_rfl) rfl ?_
                      refine S.assignT rfl ?_
                      refine WS.done ⟨fun h => absurd h (by decide), ?_⟩
                      refine WA.one (fuel := 0) 19 rfl (by kernel_rfl) rfl ?_
                      refine S.assignT rfl ?_
                      refine WS.done ⟨fun h => absurd h (by decide), ?_⟩
                      refine WA.done (by kernel_rfl) ?_
                      clear hC
                      refine WR.seq ?_
                      refine WR.region rfl ?_
                      refine S.moveT rfl ?_
                      refine S.moveT rfl ?_
                      refine S.appendOO (i := 2) hS111 rfl Try.underlying32 ti2 rfl rfl rfl rfl encI_one (by omega) rfl ?_
                      intro v116 w116 hS116; clear hS111
                      refine S.assignT rfl ?_
                      refine WS.done ?_
                      refine WR.seq ?_
                      refine WR.seq ?_
                      refine WR.region rfl ?_
                      refine S.moveT rfl ?_
                      refine WS.done ?_
                      refine WR.cond rfl (fun c117 => ?_) (fun c117 => ?_)
                      ·
                        skip
                        refine WR.seq ?_
                        refine WR.region rfl ?_
                        refine S.moveT rfl ?_
                        refine S.moveT rfl ?_
                        refine S.moveT rfl ?_
                        refine S.moveT rfl ?_
                        refine S.indexOw (i := 3) hS116 rfl Try.underlying32 ti2 rfl rfl (by omega) rfl ?_
                        refine S.loadOw (i := 3) hS116 rfl (fun _ _ => rfl) Try.underlying2 rfl rfl (hu) rfl rfl ?_
                        first
                          | refine S.addN rfl rfl rfl (by omega) ?_
                          | refine S.add rfl rfl rfl ?_
                        first
                          | refine S.buildRow (vs := [.int _ _]) hS116 Try.underlying32 ti2 rfl rfl rfl rfl rfl rfl rfl ?_
                          | refine S.buildRow hS116 Try.underlying32 ti2 rfl rfl rfl rfl rfl rfl rfl ?_
                        intro b126 w126 hS126; clear hS116
                        obtain ⟨R126, hR126, hro126, hSf126⟩ := hS126.keepRow (enc := encI .i64) (n := 1) [-1] rfl (fun _ _ => rfl)
                        replace hro110 := hro110.mono hR126
                        refine S.call ent12 rfl (h_offer hSf126 (by exact hA2.hI) (by unfold fits; omega) (by exact hro126) (by simp [fits]) (by simp)) rfl ?_
                        rintro _ w127 ⟨v127, rfl, hS127⟩
                        clear hSf126
                        have hold := all_old hA2 hu0 hu1 hN ⟨by omega, by omega⟩
                        refine S.as (d := 127) rfl (v' := .tuple #[v127, .int .i64 0]) (by rw [hold]; rfl) ?_
                        have hSo := hS127
                        rw [hold] at hSo
                        obtain ⟨RO, hRO, hroO, hSO⟩ := hSo.freeze (fun _ _ => rfl)
                        obtain ⟨fo, fc, rfl, hfo⟩ := hroO.len
                        skip
                        replace hro110 := hro110.mono hRO
                        replace hro126 := hro126.mono hRO
                        refine S.moveT rfl ?_
                        refine S.extract rfl rfl rfl ?_
                        refine S.extract rfl rfl rfl ?_
                        refine S.assignT rfl ?_
                        refine S.assignT rfl ?_
                        refine WS.done ?_
                        refine WR.region rfl ?_
                        refine S.moveT rfl ?_
                        refine S.moveT rfl ?_
                        refine S.lenSl Try.underlying32 rfl rfl ?_
                        first
                          | refine S.addN rfl rfl rfl (by omega) ?_
                          | refine S.add rfl rfl rfl ?_
                        refine S.assignT rfl ?_
                        refine WS.done ?_
                        refine WR.seq ?_
                        refine WR.region rfl ?_
                        refine S.moveT rfl ?_
                        refine S.neq rfl rfl rfl ?_
                        refine S.isFD (d := 135) rfl (by first | (simp; done) | (simp; decide)) ?_
                        refine WS.done ?_
                        refine WR.condF rfl ?_
                        refine WR.skip ?_
                        refine WR.region rfl ?_
                        refine S.moveT rfl ?_
                        first
                          | refine S.addN rfl rfl rfl (by omega) ?_
                          | refine S.add rfl rfl rfl ?_
                        refine S.assignT rfl ?_
                        refine WS.done ?_
                        exact ⟨_, (by omega), ⟨i + 1, _, _, _, v116, _, rfl, (by exact ⟨by omega, by rw [take_snoc' hu]; exact hA2, (by repeat (first | assumption | exact Kn.le.refl _ | refine Kn.le.trans ?_ (by assumption)))⟩), rfl, rfl, ⟨rfl, rfl, rfl, rfl, rfl, trivial⟩, ((((hSO.at_ (i := 1) rfl).at_ (i := 1) rfl).at_ (i := 3) rfl).at_ (i := 3) rfl)⟩⟩
                      ·
                        skip
                        refine WR.skip ?_
                        refine WR.seq ?_
                        refine WR.region rfl ?_
                        refine S.moveT rfl ?_
                        refine S.neq rfl rfl rfl ?_
                        refine S.isFD (d := 135) rfl (by first | (simp; done) | (simp; decide)) ?_
                        refine WS.done ?_
                        refine WR.condF rfl ?_
                        refine WR.skip ?_
                        refine WR.region rfl ?_
                        refine S.moveT rfl ?_
                        first
                          | refine S.addN rfl rfl rfl (by omega) ?_
                          | refine S.add rfl rfl rfl ?_
                        refine S.assignT rfl ?_
                        refine WS.done ?_
                        exact ⟨_, (by omega), ⟨i + 1, _, _, _, v116, _, rfl, (by exact ⟨by omega, by rw [take_snoc' hu]; exact hA2, (by repeat (first | assumption | exact Kn.le.refl _ | refine Kn.le.trans ?_ (by assumption)))⟩), rfl, rfl, ⟨rfl, rfl, rfl, rfl, rfl, trivial⟩, ((((hS116.at_ (i := 1) rfl).at_ (i := 1) rfl).at_ (i := 3) rfl).at_ (i := 3) rfl)⟩⟩
                    ·
                      skip
                      first
                        | refine S.buildRow (vs := [.int _ _]) hS6004 Try.underlying32 ti2 rfl rfl rfl rfl rfl rfl rfl ?_
                        | refine S.buildRow hS6004 Try.underlying32 ti2 rfl rfl rfl rfl rfl rfl rfl ?_
                      intro b110 w110 hS110; clear hS6004
                      obtain ⟨R110, hR110, hro110, hSf110⟩ := hS110.keepRow (enc := encI .i64) (n := 1) [n + u] rfl (fun _ _ => rfl)
                      refine WS.done ⟨fun _ => (hSf110.weak hR110), ?_⟩
                      replace hC := (hSf110.weak hR110)
                      refine WA.one (fuel := 7) 5 rfl (by kernel_rfl) rfl ?_
                      refine S.loadOw (i := 1) hSf110 rfl (fun _ _ => rfl) Try.underlying2 rfl rfl (hu) rfl rfl ?_
                      refine WS.done ⟨fun _ => (hSf110.weak hR110), ?_⟩
                      replace hC := (hSf110.weak hR110)
                      refine WA.one (fuel := 6) 6 rfl (by kernel_rfl) rfl ?_
                      first
                        | refine S.addN rfl rfl rfl (by omega) ?_
                        | refine S.add rfl rfl rfl ?_
                      refine WS.done ⟨fun _ => (hSf110.weak hR110), ?_⟩
                      replace hC := (hSf110.weak hR110)
                      refine WA.one (fuel := 5) 14 rfl (by kernel_rfl) rfl ?_
                      refine S.call ent12 rfl (h_offer ((((hSf110.at_ (i := 1) rfl).at_ (i := 1) rfl).at_ (i := 3) rfl).at_ (i := 3) rfl) (by exact hA.hI) (by unfold fits; omega) (by exact hro110) (by intro z hz; rw [List.mem_singleton] at hz; subst hz; unfold fits; omega) (by simp)) rfl ?_
                      rintro _ w111 ⟨v111, rfl, hS111⟩
                      clear hSf110
                      have hz0 : (offer n1 256 m1 (n + u) [n + u]).2.1 = 0 := (all_step hA hN hu0 hu1 ⟨by omega, by omega⟩).1
                      have hA2 := (all_step hA hN hu0 hu1 ⟨by omega, by omega⟩).2
                      have hgl2 := hA2.glen hN
                      rw [List.length_append] at hgl2
                      refine S.as (d := 111) rfl (v' := .tuple #[v111, .int .i64 0]) (by rw [hz0]; rfl) ?_
                      refine WS.done ⟨fun h => absurd h (by decide), ?_⟩
                      refine WA.one (fuel := 4) 15 rfl (by kernel_rfl) rfl ?_
                      refine S.moveT rfl ?_
                      refine WS.done ⟨fun h => absurd h (by decide), ?_⟩
                      refine WA.takeP (fuel := 3) 16 rfl (by kernel_rfl) (by kernel_rfl) (by kernel_rfl) rfl rfl ?_
                      refine Q.extract rfl rfl rfl ?_
                      refine WQ.done ?_
                      refine WA.takeP (fuel := 2) 17 rfl (by kernel_rfl) (by kernel_rfl) (by kernel_rfl) rfl rfl ?_
                      refine Q.extract rfl rfl rfl ?_
                      refine WQ.done ?_
                      refine WA.one (fuel := 1) 18 rfl (by kernel_rfl) rfl ?_
                      refine S.assignT rfl ?_
                      refine WS.done ⟨fun h => absurd h (by decide), ?_⟩
                      refine WA.one (fuel := 0) 19 rfl (by kernel_rfl) rfl ?_
                      refine S.assignT rfl ?_
                      refine WS.done ⟨fun h => absurd h (by decide), ?_⟩
                      refine WA.done (by kernel_rfl) ?_
                      clear hC
                      refine WR.seq ?_
                      refine WR.region rfl ?_
                      refine S.moveT rfl ?_
                      refine S.moveT rfl ?_
                      refine S.appendOO (i := 2) hS111 rfl Try.underlying32 ti2 rfl rfl rfl rfl encI_one (by omega) rfl ?_
                      intro v116 w116 hS116; clear hS111
                      refine S.assignT rfl ?_
                      refine WS.done ?_
                      refine WR.seq ?_
                      refine WR.seq ?_
                      refine WR.region rfl ?_
                      refine S.moveT rfl ?_
                      refine WS.done ?_
                      refine WR.cond rfl (fun c117 => ?_) (fun c117 => ?_)
                      ·
                        skip
                        refine WR.seq ?_
                        refine WR.region rfl ?_
                        refine S.moveT rfl ?_
                        refine S.moveT rfl ?_
                        refine S.moveT rfl ?_
                        refine S.moveT rfl ?_
                        refine S.indexOw (i := 3) hS116 rfl Try.underlying32 ti2 rfl rfl (by omega) rfl ?_
                        refine S.loadOw (i := 3) hS116 rfl (fun _ _ => rfl) Try.underlying2 rfl rfl (hu) rfl rfl ?_
                        first
                          | refine S.addN rfl rfl rfl (by omega) ?_
                          | refine S.add rfl rfl rfl ?_
                        first
                          | refine S.buildRow (vs := [.int _ _]) hS116 Try.underlying32 ti2 rfl rfl rfl rfl rfl rfl rfl ?_
                          | refine S.buildRow hS116 Try.underlying32 ti2 rfl rfl rfl rfl rfl rfl rfl ?_
                        intro b126 w126 hS126; clear hS116
                        obtain ⟨R126, hR126, hro126, hSf126⟩ := hS126.keepRow (enc := encI .i64) (n := 1) [-1] rfl (fun _ _ => rfl)
                        replace hro110 := hro110.mono hR126
                        refine S.call ent12 rfl (h_offer hSf126 (by exact hA2.hI) (by unfold fits; omega) (by exact hro126) (by simp [fits]) (by simp)) rfl ?_
                        rintro _ w127 ⟨v127, rfl, hS127⟩
                        clear hSf126
                        have hold := all_old hA2 hu0 hu1 hN ⟨by omega, by omega⟩
                        refine S.as (d := 127) rfl (v' := .tuple #[v127, .int .i64 0]) (by rw [hold]; rfl) ?_
                        have hSo := hS127
                        rw [hold] at hSo
                        obtain ⟨RO, hRO, hroO, hSO⟩ := hSo.freeze (fun _ _ => rfl)
                        obtain ⟨fo, fc, rfl, hfo⟩ := hroO.len
                        skip
                        replace hro110 := hro110.mono hRO
                        replace hro126 := hro126.mono hRO
                        refine S.moveT rfl ?_
                        refine S.extract rfl rfl rfl ?_
                        refine S.extract rfl rfl rfl ?_
                        refine S.assignT rfl ?_
                        refine S.assignT rfl ?_
                        refine WS.done ?_
                        refine WR.region rfl ?_
                        refine S.moveT rfl ?_
                        refine S.moveT rfl ?_
                        refine S.lenSl Try.underlying32 rfl rfl ?_
                        first
                          | refine S.addN rfl rfl rfl (by omega) ?_
                          | refine S.add rfl rfl rfl ?_
                        refine S.assignT rfl ?_
                        refine WS.done ?_
                        refine WR.seq ?_
                        refine WR.region rfl ?_
                        refine S.moveT rfl ?_
                        refine S.neq rfl rfl rfl ?_
                        refine S.isFD (d := 135) rfl (by first | (simp; done) | (simp; decide)) ?_
                        refine WS.done ?_
                        refine WR.condF rfl ?_
                        refine WR.skip ?_
                        refine WR.region rfl ?_
                        refine S.moveT rfl ?_
                        first
                          | refine S.addN rfl rfl rfl (by omega) ?_
                          | refine S.add rfl rfl rfl ?_
                        refine S.assignT rfl ?_
                        refine WS.done ?_
                        exact ⟨_, (by omega), ⟨i + 1, _, _, _, v116, _, rfl, (by exact ⟨by omega, by rw [take_snoc' hu]; exact hA2, (by repeat (first | assumption | exact Kn.le.refl _ | refine Kn.le.trans ?_ (by assumption)))⟩), rfl, rfl, ⟨rfl, rfl, rfl, rfl, rfl, trivial⟩, ((((hSO.at_ (i := 1) rfl).at_ (i := 1) rfl).at_ (i := 3) rfl).at_ (i := 3) rfl)⟩⟩
                      ·
                        skip
                        refine WR.skip ?_
                        refine WR.seq ?_
                        refine WR.region rfl ?_
                        refine S.moveT rfl ?_
                        refine S.neq rfl rfl rfl ?_
                        refine S.isFD (d := 135) rfl (by first | (simp; done) | (simp; decide)) ?_
                        refine WS.done ?_
                        refine WR.condF rfl ?_
                        refine WR.skip ?_
                        refine WR.region rfl ?_
                        refine S.moveT rfl ?_
                        first
                          | refine S.addN rfl rfl rfl (by omega) ?_
                          | refine S.add rfl rfl rfl ?_
                        refine S.assignT rfl ?_
                        refine WS.done ?_
                        exact ⟨_, (by omega), ⟨i + 1, _, _, _, v116, _, rfl, (by exact ⟨by omega, by rw [take_snoc' hu]; exact hA2, (by repeat (first | assumption | exact Kn.le.refl _ | refine Kn.le.trans ?_ (by assumption)))⟩), rfl, rfl, ⟨rfl, rfl, rfl, rfl, rfl, trivial⟩, ((((hS116.at_ (i := 1) rfl).at_ (i := 1) rfl).at_ (i := 3) rfl).at_ (i := 3) rfl)⟩⟩
                ·
                  skip
                  refine S.loadOw (i := 1) hS6004 rfl (fun _ _ => rfl) Try.underlying2 rfl rfl (hu) rfl rfl ?_
                  refine WS.done ⟨fun _ => hS6004, ?_⟩
                  replace hC := hS6004
                  refine WA.takeP (fuel := 10) 12 rfl (by kernel_rfl) (by kernel_rfl) (by kernel_rfl) rfl rfl ?_
                  first
                    | refine Q.addN rfl rfl rfl (by omega) ?_
                    | refine Q.add rfl rfl rfl ?_
                  refine WQ.done ?_
                  refine WA.two (fuel := 9) 4 13 rfl rfl (by kernel_rfl) rfl ?_ ?_
                  ·
                    skip
                    refine S.indexOw (i := 1) hS6004 rfl Try.underlying32 ti2 rfl rfl (by omega) rfl ?_
                    refine WS.done ⟨fun _ => hS6004, ?_⟩
                    replace hC := hS6004
                    refine WA.two (fuel := 8) 5 13 rfl rfl (by kernel_rfl) rfl ?_ ?_
                    ·
                      skip
                      refine S.loadOw (i := 1) hS6004 rfl (fun _ _ => rfl) Try.underlying2 rfl rfl (hu) rfl rfl ?_
                      refine WS.done ⟨fun _ => hS6004, ?_⟩
                      replace hC := hS6004
                      refine WA.takeP (fuel := 7) 6 rfl (by kernel_rfl) (by kernel_rfl) (by kernel_rfl) rfl rfl ?_
                      first
                        | refine Q.addN rfl rfl rfl (by omega) ?_
                        | refine Q.add rfl rfl rfl ?_
                      refine WQ.done ?_
                      refine WA.one (fuel := 6) 13 rfl (by kernel_rfl) rfl ?_
                      first
                        | refine S.buildRow (vs := [.int _ _]) hS6004 Try.underlying32 ti2 rfl rfl rfl rfl rfl rfl rfl ?_
                        | refine S.buildRow hS6004 Try.underlying32 ti2 rfl rfl rfl rfl rfl rfl rfl ?_
                      intro b110 w110 hS110; clear hS6004
                      obtain ⟨R110, hR110, hro110, hSf110⟩ := hS110.keepRow (enc := encI .i64) (n := 1) [n + u] rfl (fun _ _ => rfl)
                      refine WS.done ⟨fun _ => (hSf110.weak hR110), ?_⟩
                      replace hC := (hSf110.weak hR110)
                      refine WA.one (fuel := 5) 14 rfl (by kernel_rfl) rfl ?_
                      refine S.call ent12 rfl (h_offer ((((hSf110.at_ (i := 1) rfl).at_ (i := 1) rfl).at_ (i := 3) rfl).at_ (i := 3) rfl) (by exact hA.hI) (by unfold fits; omega) (by exact hro110) (by intro z hz; rw [List.mem_singleton] at hz; subst hz; unfold fits; omega) (by simp)) rfl ?_
                      rintro _ w111 ⟨v111, rfl, hS111⟩
                      clear hSf110
                      have hz0 : (offer n1 256 m1 (n + u) [n + u]).2.1 = 0 := (all_step hA hN hu0 hu1 ⟨by omega, by omega⟩).1
                      have hA2 := (all_step hA hN hu0 hu1 ⟨by omega, by omega⟩).2
                      have hgl2 := hA2.glen hN
                      rw [List.length_append] at hgl2
                      refine S.as (d := 111) rfl (v' := .tuple #[v111, .int .i64 0]) (by rw [hz0]; rfl) ?_
                      refine WS.done ⟨fun h => absurd h (by decide), ?_⟩
                      refine WA.one (fuel := 4) 15 rfl (by kernel_rfl) rfl ?_
                      refine S.moveT rfl ?_
                      refine WS.done ⟨fun h => absurd h (by decide), ?_⟩
                      refine WA.takeP (fuel := 3) 16 rfl (by kernel_rfl) (by kernel_rfl) (by kernel_rfl) rfl rfl ?_
                      refine Q.extract rfl rfl rfl ?_
                      refine WQ.done ?_
                      refine WA.takeP (fuel := 2) 17 rfl (by kernel_rfl) (by kernel_rfl) (by kernel_rfl) rfl rfl ?_
                      refine Q.extract rfl rfl rfl ?_
                      refine WQ.done ?_
                      refine WA.one (fuel := 1) 18 rfl (by kernel_rfl) rfl ?_
                      refine S.assignT rfl ?_
                      refine WS.done ⟨fun h => absurd h (by decide), ?_⟩
                      refine WA.one (fuel := 0) 19 rfl (by kernel_rfl) rfl ?_
                      refine S.assignT rfl ?_
                      refine WS.done ⟨fun h => absurd h (by decide), ?_⟩
                      refine WA.done (by kernel_rfl) ?_
                      clear hC
                      refine WR.seq ?_
                      refine WR.region rfl ?_
                      refine S.moveT rfl ?_
                      refine S.moveT rfl ?_
                      refine S.appendOO (i := 2) hS111 rfl Try.underlying32 ti2 rfl rfl rfl rfl encI_one (by omega) rfl ?_
                      intro v116 w116 hS116; clear hS111
                      refine S.assignT rfl ?_
                      refine WS.done ?_
                      refine WR.seq ?_
                      refine WR.seq ?_
                      refine WR.region rfl ?_
                      refine S.moveT rfl ?_
                      refine WS.done ?_
                      refine WR.cond rfl (fun c117 => ?_) (fun c117 => ?_)
                      ·
                        skip
                        refine WR.seq ?_
                        refine WR.region rfl ?_
                        refine S.moveT rfl ?_
                        refine S.moveT rfl ?_
                        refine S.moveT rfl ?_
                        refine S.moveT rfl ?_
                        refine S.indexOw (i := 3) hS116 rfl Try.underlying32 ti2 rfl rfl (by omega) rfl ?_
                        refine S.loadOw (i := 3) hS116 rfl (fun _ _ => rfl) Try.underlying2 rfl rfl (hu) rfl rfl ?_
                        first
                          | refine S.addN rfl rfl rfl (by omega) ?_
                          | refine S.add rfl rfl rfl ?_
                        first
                          | refine S.buildRow (vs := [.int _ _]) hS116 Try.underlying32 ti2 rfl rfl rfl rfl rfl rfl rfl ?_
                          | refine S.buildRow hS116 Try.underlying32 ti2 rfl rfl rfl rfl rfl rfl rfl ?_
                        intro b126 w126 hS126; clear hS116
                        obtain ⟨R126, hR126, hro126, hSf126⟩ := hS126.keepRow (enc := encI .i64) (n := 1) [-1] rfl (fun _ _ => rfl)
                        replace hro110 := hro110.mono hR126
                        refine S.call ent12 rfl (h_offer hSf126 (by exact hA2.hI) (by unfold fits; omega) (by exact hro126) (by simp [fits]) (by simp)) rfl ?_
                        rintro _ w127 ⟨v127, rfl, hS127⟩
                        clear hSf126
                        have hold := all_old hA2 hu0 hu1 hN ⟨by omega, by omega⟩
                        refine S.as (d := 127) rfl (v' := .tuple #[v127, .int .i64 0]) (by rw [hold]; rfl) ?_
                        have hSo := hS127
                        rw [hold] at hSo
                        obtain ⟨RO, hRO, hroO, hSO⟩ := hSo.freeze (fun _ _ => rfl)
                        obtain ⟨fo, fc, rfl, hfo⟩ := hroO.len
                        skip
                        replace hro110 := hro110.mono hRO
                        replace hro126 := hro126.mono hRO
                        refine S.moveT rfl ?_
                        refine S.extract rfl rfl rfl ?_
                        refine S.extract rfl rfl rfl ?_
                        refine S.assignT rfl ?_
                        refine S.assignT rfl ?_
                        refine WS.done ?_
                        refine WR.region rfl ?_
                        refine S.moveT rfl ?_
                        refine S.moveT rfl ?_
                        refine S.lenSl Try.underlying32 rfl rfl ?_
                        first
                          | refine S.addN rfl rfl rfl (by omega) ?_
                          | refine S.add rfl rfl rfl ?_
                        refine S.assignT rfl ?_
                        refine WS.done ?_
                        refine WR.seq ?_
                        refine WR.region rfl ?_
                        refine S.moveT rfl ?_
                        refine S.neq rfl rfl rfl ?_
                        refine S.isFD (d := 135) rfl (by first | (simp; done) | (simp; decide)) ?_
                        refine WS.done ?_
                        refine WR.condF rfl ?_
                        refine WR.skip ?_
                        refine WR.region rfl ?_
                        refine S.moveT rfl ?_
                        first
                          | refine S.addN rfl rfl rfl (by omega) ?_
                          | refine S.add rfl rfl rfl ?_
                        refine S.assignT rfl ?_
                        refine WS.done ?_
                        exact ⟨_, (by omega), ⟨i + 1, _, _, _, v116, _, rfl, (by exact ⟨by omega, by rw [take_snoc' hu]; exact hA2, (by repeat (first | assumption | exact Kn.le.refl _ | refine Kn.le.trans ?_ (by assumption)))⟩), rfl, rfl, ⟨rfl, rfl, rfl, rfl, rfl, trivial⟩, ((((hSO.at_ (i := 1) rfl).at_ (i := 1) rfl).at_ (i := 3) rfl).at_ (i := 3) rfl)⟩⟩
                      ·
                        skip
                        refine WR.skip ?_
                        refine WR.seq ?_
                        refine WR.region rfl ?_
                        refine S.moveT rfl ?_
                        refine S.neq rfl rfl rfl ?_
                        refine S.isFD (d := 135) rfl (by first | (simp; done) | (simp; decide)) ?_
                        refine WS.done ?_
                        refine WR.condF rfl ?_
                        refine WR.skip ?_
                        refine WR.region rfl ?_
                        refine S.moveT rfl ?_
                        first
                          | refine S.addN rfl rfl rfl (by omega) ?_
                          | refine S.add rfl rfl rfl ?_
                        refine S.assignT rfl ?_
                        refine WS.done ?_
                        exact ⟨_, (by omega), ⟨i + 1, _, _, _, v116, _, rfl, (by exact ⟨by omega, by rw [take_snoc' hu]; exact hA2, (by repeat (first | assumption | exact Kn.le.refl _ | refine Kn.le.trans ?_ (by assumption)))⟩), rfl, rfl, ⟨rfl, rfl, rfl, rfl, rfl, trivial⟩, ((((hS116.at_ (i := 1) rfl).at_ (i := 1) rfl).at_ (i := 3) rfl).at_ (i := 3) rfl)⟩⟩
                    ·
                      skip
                      first
                        | refine S.buildRow (vs := [.int _ _]) hS6004 Try.underlying32 ti2 rfl rfl rfl rfl rfl rfl rfl ?_
                        | refine S.buildRow hS6004 Try.underlying32 ti2 rfl rfl rfl rfl rfl rfl rfl ?_
                      intro b110 w110 hS110; clear hS6004
                      obtain ⟨R110, hR110, hro110, hSf110⟩ := hS110.keepRow (enc := encI .i64) (n := 1) [n + u] rfl (fun _ _ => rfl)
                      refine WS.done ⟨fun _ => (hSf110.weak hR110), ?_⟩
                      replace hC := (hSf110.weak hR110)
                      refine WA.one (fuel := 7) 5 rfl (by kernel_rfl) rfl ?_
                      refine S.loadOw (i := 1) hSf110 rfl (fun _ _ => rfl) Try.underlying2 rfl rfl (hu) rfl rfl ?_
                      refine WS.done ⟨fun _ => (hSf110.weak hR110), ?_⟩
                      replace hC := (hSf110.weak hR110)
                      refine WA.one (fuel := 6) 6 rfl (by kernel_rfl) rfl ?_
                      first
                        | refine S.addN rfl rfl rfl (by omega) ?_
                        | refine S.add rfl rfl rfl ?_
                      refine WS.done ⟨fun _ => (hSf110.weak hR110), ?_⟩
                      replace hC := (hSf110.weak hR110)
                      refine WA.one (fuel := 5) 14 rfl (by kernel_rfl) rfl ?_
                      refine S.call ent12 rfl (h_offer ((((hSf110.at_ (i := 1) rfl).at_ (i := 1) rfl).at_ (i := 3) rfl).at_ (i := 3) rfl) (by exact hA.hI) (by unfold fits; omega) (by exact hro110) (by intro z hz; rw [List.mem_singleton] at hz; subst hz; unfold fits; omega) (by simp)) rfl ?_
                      rintro _ w111 ⟨v111, rfl, hS111⟩
                      clear hSf110
                      have hz0 : (offer n1 256 m1 (n + u) [n + u]).2.1 = 0 := (all_step hA hN hu0 hu1 ⟨by omega, by omega⟩).1
                      have hA2 := (all_step hA hN hu0 hu1 ⟨by omega, by omega⟩).2
                      have hgl2 := hA2.glen hN
                      rw [List.length_append] at hgl2
                      refine S.as (d := 111) rfl (v' := .tuple #[v111, .int .i64 0]) (by rw [hz0]; rfl) ?_
                      refine WS.done ⟨fun h => absurd h (by decide), ?_⟩
                      refine WA.one (fuel := 4) 15 rfl (by kernel_rfl) rfl ?_
                      refine S.moveT rfl ?_
                      refine WS.done ⟨fun h => absurd h (by decide), ?_⟩
                      refine WA.takeP (fuel := 3) 16 rfl (by kernel_rfl) (by kernel_rfl) (by kernel_rfl) rfl rfl ?_
                      refine Q.extract rfl rfl rfl ?_
                      refine WQ.done ?_
                      refine WA.takeP (fuel := 2) 17 rfl (by kernel_rfl) (by kernel_rfl) (by kernel_rfl) rfl rfl ?_
                      refine Q.extract rfl rfl rfl ?_
                      refine WQ.done ?_
                      refine WA.one (fuel := 1) 18 rfl (by kernel_rfl) rfl ?_
                      refine S.assignT rfl ?_
                      refine WS.done ⟨fun h => absurd h (by decide), ?_⟩
                      refine WA.one (fuel := 0) 19 rfl (by kernel_rfl) rfl ?_
                      refine S.assignT rfl ?_
                      refine WS.done ⟨fun h => absurd h (by decide), ?_⟩
                      refine WA.done (by kernel_rfl) ?_
                      clear hC
                      refine WR.seq ?_
                      refine WR.region rfl ?_
                      refine S.moveT rfl ?_
                      refine S.moveT rfl ?_
                      refine S.appendOO (i := 2) hS111 rfl Try.underlying32 ti2 rfl rfl rfl rfl encI_one (by omega) rfl ?_
                      intro v116 w116 hS116; clear hS111
                      refine S.assignT rfl ?_
                      refine WS.done ?_
                      refine WR.seq ?_
                      refine WR.seq ?_
                      refine WR.region rfl ?_
                      refine S.moveT rfl ?_
                      refine WS.done ?_
                      refine WR.cond rfl (fun c117 => ?_) (fun c117 => ?_)
                      ·
                        skip
                        refine WR.seq ?_
                        refine WR.region rfl ?_
                        refine S.moveT rfl ?_
                        refine S.moveT rfl ?_
                        refine S.moveT rfl ?_
                        refine S.moveT rfl ?_
                        refine S.indexOw (i := 3) hS116 rfl Try.underlying32 ti2 rfl rfl (by omega) rfl ?_
                        refine S.loadOw (i := 3) hS116 rfl (fun _ _ => rfl) Try.underlying2 rfl rfl (hu) rfl rfl ?_
                        first
                          | refine S.addN rfl rfl rfl (by omega) ?_
                          | refine S.add rfl rfl rfl ?_
                        first
                          | refine S.buildRow (vs := [.int _ _]) hS116 Try.underlying32 ti2 rfl rfl rfl rfl rfl rfl rfl ?_
                          | refine S.buildRow hS116 Try.underlying32 ti2 rfl rfl rfl rfl rfl rfl rfl ?_
                        intro b126 w126 hS126; clear hS116
                        obtain ⟨R126, hR126, hro126, hSf126⟩ := hS126.keepRow (enc := encI .i64) (n := 1) [-1] rfl (fun _ _ => rfl)
                        replace hro110 := hro110.mono hR126
                        refine S.call ent12 rfl (h_offer hSf126 (by exact hA2.hI) (by unfold fits; omega) (by exact hro126) (by simp [fits]) (by simp)) rfl ?_
                        rintro _ w127 ⟨v127, rfl, hS127⟩
                        clear hSf126
                        have hold := all_old hA2 hu0 hu1 hN ⟨by omega, by omega⟩
                        refine S.as (d := 127) rfl (v' := .tuple #[v127, .int .i64 0]) (by rw [hold]; rfl) ?_
                        have hSo := hS127
                        rw [hold] at hSo
                        obtain ⟨RO, hRO, hroO, hSO⟩ := hSo.freeze (fun _ _ => rfl)
                        obtain ⟨fo, fc, rfl, hfo⟩ := hroO.len
                        skip
                        replace hro110 := hro110.mono hRO
                        replace hro126 := hro126.mono hRO
                        refine S.moveT rfl ?_
                        refine S.extract rfl rfl rfl ?_
                        refine S.extract rfl rfl rfl ?_
                        refine S.assignT rfl ?_
                        refine S.assignT rfl ?_
                        refine WS.done ?_
                        refine WR.region rfl ?_
                        refine S.moveT rfl ?_
                        refine S.moveT rfl ?_
                        refine S.lenSl Try.underlying32 rfl rfl ?_
                        first
                          | refine S.addN rfl rfl rfl (by omega) ?_
                          | refine S.add rfl rfl rfl ?_
                        refine S.assignT rfl ?_
                        refine WS.done ?_
                        refine WR.seq ?_
                        refine WR.region rfl ?_
                        refine S.moveT rfl ?_
                        refine S.neq rfl rfl rfl ?_
                        refine S.isFD (d := 135) rfl (by first | (simp; done) | (simp; decide)) ?_
                        refine WS.done ?_
                        refine WR.condF rfl ?_
                        refine WR.skip ?_
                        refine WR.region rfl ?_
                        refine S.moveT rfl ?_
                        first
                          | refine S.addN rfl rfl rfl (by omega) ?_
                          | refine S.add rfl rfl rfl ?_
                        refine S.assignT rfl ?_
                        refine WS.done ?_
                        exact ⟨_, (by omega), ⟨i + 1, _, _, _, v116, _, rfl, (by exact ⟨by omega, by rw [take_snoc' hu]; exact hA2, (by repeat (first | assumption | exact Kn.le.refl _ | refine Kn.le.trans ?_ (by assumption)))⟩), rfl, rfl, ⟨rfl, rfl, rfl, rfl, rfl, trivial⟩, ((((hSO.at_ (i := 1) rfl).at_ (i := 1) rfl).at_ (i := 3) rfl).at_ (i := 3) rfl)⟩⟩
                      ·
                        skip
                        refine WR.skip ?_
                        refine WR.seq ?_
                        refine WR.region rfl ?_
                        refine S.moveT rfl ?_
                        refine S.neq rfl rfl rfl ?_
                        refine S.isFD (d := 135) rfl (by first | (simp; done) | (simp; decide)) ?_
                        refine WS.done ?_
                        refine WR.condF rfl ?_
                        refine WR.skip ?_
                        refine WR.region rfl ?_
                        refine S.moveT rfl ?_
                        first
                          | refine S.addN rfl rfl rfl (by omega) ?_
                          | refine S.add rfl rfl rfl ?_
                        refine S.assignT rfl ?_
                        refine WS.done ?_
                        exact ⟨_, (by omega), ⟨i + 1, _, _, _, v116, _, rfl, (by exact ⟨by omega, by rw [take_snoc' hu]; exact hA2, (by repeat (first | assumption | exact Kn.le.refl _ | refine Kn.le.trans ?_ (by assumption)))⟩), rfl, rfl, ⟨rfl, rfl, rfl, rfl, rfl, trivial⟩, ((((hS116.at_ (i := 1) rfl).at_ (i := 1) rfl).at_ (i := 3) rfl).at_ (i := 3) rfl)⟩⟩
                  ·
                    skip
                    first
                      | refine S.buildRow (vs := [.int _ _]) hS6004 Try.underlying32 ti2 rfl rfl rfl rfl rfl rfl rfl ?_
                      | refine S.buildRow hS6004 Try.underlying32 ti2 rfl rfl rfl rfl rfl rfl rfl ?_
                    intro b110 w110 hS110; clear hS6004
                    obtain ⟨R110, hR110, hro110, hSf110⟩ := hS110.keepRow (enc := encI .i64) (n := 1) [n + u] rfl (fun _ _ => rfl)
                    refine WS.done ⟨fun _ => (hSf110.weak hR110), ?_⟩
                    replace hC := (hSf110.weak hR110)
                    refine WA.one (fuel := 8) 4 rfl (by kernel_rfl) rfl ?_
                    refine S.indexOw (i := 1) hSf110 rfl Try.underlying32 ti2 rfl rfl (by omega) rfl ?_
                    refine WS.done ⟨fun _ => (hSf110.weak hR110), ?_⟩
                    replace hC := (hSf110.weak hR110)
                    refine WA.one (fuel := 7) 5 rfl (by kernel_rfl) rfl ?_
                    refine S.loadOw (i := 1) hSf110 rfl (fun _ _ => rfl) Try.underlying2 rfl rfl (hu) rfl rfl ?_
                    refine WS.done ⟨fun _ => (hSf110.weak hR110), ?_⟩
                    replace hC := (hSf110.weak hR110)
                    refine WA.one (fuel := 6) 6 rfl (by kernel_rfl) rfl ?_
                    first
                      | refine S.addN rfl rfl rfl (by omega) ?_
                      | refine S.add rfl rfl rfl ?_
                    refine WS.done ⟨fun _ => (hSf110.weak hR110), ?_⟩
                    replace hC := (hSf110.weak hR110)
                    refine WA.one (fuel := 5) 14 rfl (by kernel_rfl) rfl ?_
                    refine S.call ent12 rfl (h_offer ((((hSf110.at_ (i := 1) rfl).at_ (i := 1) rfl).at_ (i := 3) rfl).at_ (i := 3) rfl) (by exact hA.hI) (by unfold fits; omega) (by exact hro110) (by intro z hz; rw [List.mem_singleton] at hz; subst hz; unfold fits; omega) (by simp)) rfl ?_
                    rintro _ w111 ⟨v111, rfl, hS111⟩
                    clear hSf110
                    have hz0 : (offer n1 256 m1 (n + u) [n + u]).2.1 = 0 := (all_step hA hN hu0 hu1 ⟨by omega, by omega⟩).1
                    have hA2 := (all_step hA hN hu0 hu1 ⟨by omega, by omega⟩).2
                    have hgl2 := hA2.glen hN
                    rw [List.length_append] at hgl2
                    refine S.as (d := 111) rfl (v' := .tuple #[v111, .int .i64 0]) (by rw [hz0]; rfl) ?_
                    refine WS.done ⟨fun h => absurd h (by decide), ?_⟩
                    refine WA.one (fuel := 4) 15 rfl (by kernel_rfl) rfl ?_
                    refine S.moveT rfl ?_
                    refine WS.done ⟨fun h => absurd h (by decide), ?_⟩
                    refine WA.takeP (fuel := 3) 16 rfl (by kernel_rfl) (by kernel_rfl) (by kernel_rfl) rfl rfl ?_
                    refine Q.extract rfl rfl rfl ?_
                    refine WQ.done ?_
                    refine WA.takeP (fuel := 2) 17 rfl (by kernel_rfl) (by kernel_rfl) (by kernel_rfl) rfl rfl ?_
                    refine Q.extract rfl rfl rfl ?_
                    refine WQ.done ?_
                    refine WA.one (fuel := 1) 18 rfl (by kernel_rfl) rfl ?_
                    refine S.assignT rfl ?_
                    refine WS.done ⟨fun h => absurd h (by decide), ?_⟩
                    refine WA.one (fuel := 0) 19 rfl (by kernel_rfl) rfl ?_
                    refine S.assignT rfl ?_
                    refine WS.done ⟨fun h => absurd h (by decide), ?_⟩
                    refine WA.done (by kernel_rfl) ?_
                    clear hC
                    refine WR.seq ?_
                    refine WR.region rfl ?_
                    refine S.moveT rfl ?_
                    refine S.moveT rfl ?_
                    refine S.appendOO (i := 2) hS111 rfl Try.underlying32 ti2 rfl rfl rfl rfl encI_one (by omega) rfl ?_
                    intro v116 w116 hS116; clear hS111
                    refine S.assignT rfl ?_
                    refine WS.done ?_
                    refine WR.seq ?_
                    refine WR.seq ?_
                    refine WR.region rfl ?_
                    refine S.moveT rfl ?_
                    refine WS.done ?_
                    refine WR.cond rfl (fun c117 => ?_) (fun c117 => ?_)
                    ·
                      skip
                      refine WR.seq ?_
                      refine WR.region rfl ?_
                      refine S.moveT rfl ?_
                      refine S.moveT rfl ?_
                      refine S.moveT rfl ?_
                      refine S.moveT rfl ?_
                      refine S.indexOw (i := 3) hS116 rfl Try.underlying32 ti2 rfl rfl (by omega) rfl ?_
                      refine S.loadOw (i := 3) hS116 rfl (fun _ _ => rfl) Try.underlying2 rfl rfl (hu) rfl rfl ?_
                      first
                        | refine S.addN rfl rfl rfl (by omega) ?_
                        | refine S.add rfl rfl rfl ?_
                      first
                        | refine S.buildRow (vs := [.int _ _]) hS116 Try.underlying32 ti2 rfl rfl rfl rfl rfl rfl rfl ?_
                        | refine S.buildRow hS116 Try.underlying32 ti2 rfl rfl rfl rfl rfl rfl rfl ?_
                      intro b126 w126 hS126; clear hS116
                      obtain ⟨R126, hR126, hro126, hSf126⟩ := hS126.keepRow (enc := encI .i64) (n := 1) [-1] rfl (fun _ _ => rfl)
                      replace hro110 := hro110.mono hR126
                      refine S.call ent12 rfl (h_offer hSf126 (by exact hA2.hI) (by unfold fits; omega) (by exact hro126) (by simp [fits]) (by simp)) rfl ?_
                      rintro _ w127 ⟨v127, rfl, hS127⟩
                      clear hSf126
                      have hold := all_old hA2 hu0 hu1 hN ⟨by omega, by omega⟩
                      refine S.as (d := 127) rfl (v' := .tuple #[v127, .int .i64 0]) (by rw [hold]; rfl) ?_
                      have hSo := hS127
                      rw [hold] at hSo
                      obtain ⟨RO, hRO, hroO, hSO⟩ := hSo.freeze (fun _ _ => rfl)
                      obtain ⟨fo, fc, rfl, hfo⟩ := hroO.len
                      skip
                      replace hro110 := hro110.mono hRO
                      replace hro126 := hro126.mono hRO
                      refine S.moveT rfl ?_
                      refine S.extract rfl rfl rfl ?_
                      refine S.extract rfl rfl rfl ?_
                      refine S.assignT rfl ?_
                      refine S.assignT rfl ?_
                      refine WS.done ?_
                      refine WR.region rfl ?_
                      refine S.moveT rfl ?_
                      refine S.moveT rfl ?_
                      refine S.lenSl Try.underlying32 rfl rfl ?_
                      first
                        | refine S.addN rfl rfl rfl (by omega) ?_
                        | refine S.add rfl rfl rfl ?_
                      refine S.assignT rfl ?_
                      refine WS.done ?_
                      refine WR.seq ?_
                      refine WR.region rfl ?_
                      refine S.moveT rfl ?_
                      refine S.neq rfl rfl rfl ?_
                      refine S.isFD (d := 135) rfl (by first | (simp; done) | (simp; decide)) ?_
                      refine WS.done ?_
                      refine WR.condF rfl ?_
                      refine WR.skip ?_
                      refine WR.region rfl ?_
                      refine S.moveT rfl ?_
                      first
                        | refine S.addN rfl rfl rfl (by omega) ?_
                        | refine S.add rfl rfl rfl ?_
                      refine S.assignT rfl ?_
                      refine WS.done ?_
                      exact ⟨_, (by omega), ⟨i + 1, _, _, _, v116, _, rfl, (by exact ⟨by omega, by rw [take_snoc' hu]; exact hA2, (by repeat (first | assumption | exact Kn.le.refl _ | refine Kn.le.trans ?_ (by assumption)))⟩), rfl, rfl, ⟨rfl, rfl, rfl, rfl, rfl, trivial⟩, ((((hSO.at_ (i := 1) rfl).at_ (i := 1) rfl).at_ (i := 3) rfl).at_ (i := 3) rfl)⟩⟩
                    ·
                      skip
                      refine WR.skip ?_
                      refine WR.seq ?_
                      refine WR.region rfl ?_
                      refine S.moveT rfl ?_
                      refine S.neq rfl rfl rfl ?_
                      refine S.isFD (d := 135) rfl (by first | (simp; done) | (simp; decide)) ?_
                      refine WS.done ?_
                      refine WR.condF rfl ?_
                      refine WR.skip ?_
                      refine WR.region rfl ?_
                      refine S.moveT rfl ?_
                      first
                        | refine S.addN rfl rfl rfl (by omega) ?_
                        | refine S.add rfl rfl rfl ?_
                      refine S.assignT rfl ?_
                      refine WS.done ?_
                      exact ⟨_, (by omega), ⟨i + 1, _, _, _, v116, _, rfl, (by exact ⟨by omega, by rw [take_snoc' hu]; exact hA2, (by repeat (first | assumption | exact Kn.le.refl _ | refine Kn.le.trans ?_ (by assumption)))⟩), rfl, rfl, ⟨rfl, rfl, rfl, rfl, rfl, trivial⟩, ((((hS116.at_ (i := 1) rfl).at_ (i := 1) rfl).at_ (i := 3) rfl).at_ (i := 3) rfl)⟩⟩
            ·
              skip
              refine WR.exit ?_
              refine WR.seq ?_
              refine WR.seq ?_
              obtain rfl : i = ys.length := by omega
              rw [List.take_length] at hA
              have hend := hA.fin hp hN
              refine WR.region rfl ?_
              refine S.assignC rfl ?_
              refine WS.done ?_
              refine WR.block ?_
              refine WR.loopE (fun rq mm rr wr => ∃ (i : Nat), mm = os.length - i ∧ (i ≤ os.length) ∧ rr 20 = .int .i64 (i : Int) ∧ Agr [0, 7, 9, 14] rr rq ∧ St wr R1 (Ow 2 (encI .i64) 1 (.slice ag got.length cg) got :: Ow 2 (encI .i64) 1 (.slice ao ys.length co) ys :: blk bh36 (.cells (#[.int .i64 n1, .int .i64 256, .map (some bm36)]) 51 (0, 0)) :: Mp Try.prog 2 bm36 (mE iE m1) :: L)) ⟨0, rfl, (by omega), rfl, ⟨rfl, rfl, rfl, rfl, trivial⟩, hS1003⟩ ?_
              rintro mm rr w1004 ⟨i, hm1004, hi4, hr1004_20, hA1004, hS1004⟩
              obtain ⟨rr, rfl⟩ := agrBack hA1004
              clear hA1004
              obtain ⟨rr, rfl⟩ := back1 (r := rr) hr1004_20
              clear hr1004_20
              refine WR.seq ?_
              refine WR.seq ?_
              refine WR.region rfl ?_
              refine S.moveT rfl ?_
              refine S.moveT rfl ?_
              refine S.lss rfl rfl rfl ?_
              refine WS.done ?_
              refine WR.condD rfl (fun c138 => ?_) (fun c138 => ?_)
              ·
                skip
                refine WR.skip ?_
                refine WR.seq ?_
                refine WR.block ?_
                refine WR.seq ?_
                refine WR.region rfl ?_
                refine S.moveT rfl ?_
                refine S.moveT rfl ?_
                refine S.lenSl Try.underlying32 rfl rfl ?_
                refine S.geq rfl rfl rfl ?_
                refine S.isFD (d := 144) rfl (by rw [hend.1]; omega) ?_
                refine S.moveT rfl ?_
                obtain ⟨ug, hug⟩ : ∃ u, got[i]? = some u := ⟨_, List.getElem?_eq_getElem (by rw [hend.1]; omega)⟩
                refine S.moveT rfl ?_
                refine S.moveT rfl ?_
                refine S.indexOw (i := 0) hS1004 rfl Try.underlying32 ti2 rfl rfl (by omega) rfl ?_
                refine S.loadOw (i := 0) hS1004 rfl (fun _ _ => rfl) Try.underlying2 rfl rfl (hug) rfl rfl ?_
                refine S.moveT rfl ?_
                refine S.moveT rfl ?_
                first
                  | refine S.addN rfl rfl rfl (by omega) ?_
                  | refine S.add rfl rfl rfl ?_
                refine S.neq rfl rfl rfl ?_
                refine S.isFD (d := 153) rfl (by have := hA.gt i ug hug; omega) ?_
                refine S.pickF rfl rfl ?_
                refine WS.done ?_
                refine WR.condF rfl ?_
                refine WR.skip ?_
                refine WR.region rfl ?_
                refine S.moveT rfl ?_
                first
                  | refine S.addN rfl rfl rfl (by omega) ?_
                  | refine S.add rfl rfl rfl ?_
                refine S.assignT rfl ?_
                refine WS.done ?_
                exact ⟨_, (by omega), ⟨i + 1, rfl, (by omega), rfl, ⟨rfl, rfl, rfl, rfl, trivial⟩, hS1004⟩⟩
              ·
                skip
                refine WR.exit ?_
                refine WR.seq ?_
                refine WR.region rfl ?_
                refine S.moveT rfl ?_
                refine S.lenSl Try.underlying32 rfl rfl ?_
                refine S.moveT rfl ?_
                refine S.eql rfl rfl rfl ?_
                refine S.isTD (d := 158) rfl (by rw [hend.1]) ?_
                refine S.moveT rfl ?_
                refine S.moveT rfl ?_
                refine S.call ent17 rfl (h_next ((((hS1004.at_ (i := 1) rfl).at_ (i := 1) rfl).at_ (i := 3) rfl).at_ (i := 3) rfl) ) rfl ?_
                rintro _ w161 ⟨rfl, hS161⟩
                clear hS1004
                refine S.moveT rfl ?_
                refine S.moveT rfl ?_
                first
                  | refine S.addN rfl rfl rfl (by omega) ?_
                  | refine S.add rfl rfl rfl ?_
                refine S.eql rfl rfl rfl ?_
                refine S.isTD (d := 165) rfl (by exact hend.2.2) ?_
                refine S.pickT rfl rfl ?_
                refine S.moveT rfl ?_
                refine S.moveT rfl ?_
                refine S.call ent18 rfl (h_waiting hS161 (by rw [hend.2.1]; decide)) rfl ?_
                rintro v169 w169 hS169
                clear hS161
                obtain ⟨R169, hR169, hro169, hSf169⟩ := hS169.freeze (fun _ _ => rfl)
                obtain ⟨fa169, fc169, rfl, hfl169⟩ := hro169.len
                refine S.lenSl Try.underlying32 rfl rfl ?_
                refine S.eql rfl rfl rfl ?_
                refine S.isTD (d := 171) rfl (by rw [hend.2.1]; rfl) ?_
                refine S.pickT rfl rfl ?_
                refine S.assignT rfl ?_
                refine WS.done ?_
                refine WR.ret (ret1 rfl rfl ?_)
                first | exact ⟨rfl, hSf169⟩ | exact ⟨rfl, hSf169.drop.drop.drop.drop.weak (by repeat (first | assumption | exact Kn.le.refl _ | refine Kn.le.trans ?_ (by assumption)))⟩


end Go.Proofs.Ytcbfmbcmokafpaa.B

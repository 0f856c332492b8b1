import Derived.Test.YtmmdbincgianaaaWalkE
namespace Go.Proofs.Ytmmdbincgianaaa.B
open Go.Proofs Go.RowKit
set_option linter.unusedVariables false
set_option linter.unusedSimpArgs false
theorem encA_ones {xs : List (List Int)} : ∀ x ∈ xs, ∀ u ∈ encA x, u.oneCell' = true := fun x _ => encA_one x
theorem psum_all {xs : List Int} (hl : xs.length = 65) : xs.sum = psum xs 65 := by unfold psum; rw [List.take_of_length_le (by omega)]
/-- How many are in lesser buckets. -/
def clt (b : Nat) (xs : List Int) : Int := (xs.countP (fun v => decide (bkt v < b)) : Nat)
theorem clt_le {b : Nat} {xs : List Int} : 0 ≤ clt b xs ∧ clt b xs ≤ xs.length := by
  unfold clt
  have := List.countP_le_length (p := fun v => decide (bkt v < b)) (l := xs)
  omega
theorem clt_snoc {b : Nat} {xs : List Int} {v : Int} : clt b (xs ++ [v]) = clt b xs + (if bkt v < b then 1 else 0) := by
  unfold clt
  rw [List.countP_append, List.countP_singleton]
  by_cases h : bkt v < b
  · rw [if_pos h, if_pos (by simpa using h)]; omega
  · rw [if_neg h, if_neg (by simpa using h)]; omega
theorem cnt_snoc {b : Nat} {xs : List Int} {v : Int} : cnt b (xs ++ [v]) = cnt b xs + (if b = bkt v then 1 else 0) := by rw [cnt_append, cnt_one]
theorem clt_hit {b i : Nat} {xs : List Int} {v : Int} (hu : xs[i]? = some v) (h : (bkt v : Int) < b) : clt b (xs.take i) + 1 = clt b (xs.take (i + 1)) := by rw [take_snoc hu, clt_snoc, if_pos (by omega)]
theorem clt_miss {b i : Nat} {xs : List Int} {v : Int} (hu : xs[i]? = some v) (h : ¬ (bkt v : Int) < b) : clt b (xs.take i) = clt b (xs.take (i + 1)) := by rw [take_snoc hu, clt_snoc, if_neg (by omega), Int.add_zero]
theorem cnt_hit {b i : Nat} {xs : List Int} {v : Int} (hu : xs[i]? = some v) (h : (bkt v : Int) = b) : cnt b (xs.take i) + 1 = cnt b (xs.take (i + 1)) := by rw [take_snoc hu, cnt_snoc, if_pos (by omega)]
theorem cnt_miss {b i : Nat} {xs : List Int} {v : Int} (hu : xs[i]? = some v) (h : ¬ (bkt v : Int) = b) : cnt b (xs.take i) = cnt b (xs.take (i + 1)) := by rw [take_snoc hu, cnt_snoc, if_neg (by omega), Int.add_zero]
theorem clt_succ {b : Nat} : ∀ (xs : List Int), clt (b + 1) xs = clt b xs + cnt b xs
  | [] => rfl
  | v :: xs => by
    have := clt_succ (b := b) xs
    unfold clt cnt at *
    simp only [List.countP_cons]
    by_cases h1 : bkt v < b
    · have h2 : bkt v < b + 1 := by omega
      have h3 : ¬ bkt v = b := by omega
      simp [h1, h2, h3]; omega
    · by_cases h3 : bkt v = b
      · have h2 : bkt v < b + 1 := by omega
        simp [h1, h2, h3]; omega
      · have h2 : ¬ bkt v < b + 1 := by omega
        simp [h1, h2, h3]; omega
theorem clt_zero {xs : List Int} : clt 0 xs = 0 := by unfold clt; simp
theorem clt_all {xs : List Int} (h : ∀ v ∈ xs, fits v) : clt 65 xs = xs.length := by
  unfold clt
  rw [List.countP_eq_length.2 (fun v hv => by simpa using bkt_lt (h v hv))]
theorem psum_of {xs : List Int} : ∀ b, b ≤ 65 → psum (ofL xs) b = clt b xs
  | 0, _ => by rw [psum_zero, clt_zero]
  | b + 1, h => by rw [psum_succ (by rw [ofL_len]; omega), psum_of b (by omega), ofL_get (by omega), clt_succ]
theorem ofL_sum {xs : List Int} (h : ∀ v ∈ xs, fits v) : (ofL xs).sum = xs.length := by rw [psum_all ofL_len, psum_of 65 (Nat.le_refl _), clt_all h]
theorem rank_some {xs : List Int} {k x : Int} (hf : ∀ v ∈ xs, fits v) (h0 : 0 ≤ k) (h1 : k < xs.length) (h : rkP (ofL xs) k x) : ∃ b : Nat, x = b ∧ b < 65 ∧ clt b xs ≤ k ∧ k < clt b xs + cnt b xs := by
  rcases h with ⟨a | a, _⟩ | ⟨a1, a2, a3, rfl⟩ | ⟨b, a1, a2, a3, a4, a5, rfl⟩
  · exact absurd ofL_rgt a
  · omega
  · have := a3 64 (by decide)
    rw [psum_of 65 (Nat.le_refl _), clt_all hf] at this
    omega
  · refine ⟨b, rfl, a3, ?_, ?_⟩
    · cases b with
      | zero => rw [clt_zero]; exact h0
      | succ b => have := a4 b (by omega); rwa [psum_of _ (by omega)] at this
    · rwa [psum_of _ (by omega), clt_succ] at a5
theorem rank_none {xs : List Int} {x : Int} (hf : ∀ v ∈ xs, fits v) (h : rkP (ofL xs) (xs.length : Int) x) : x = -1 := by
  rcases h with ⟨_, rfl⟩ | ⟨_, _, _, rfl⟩ | ⟨b, a1, a2, a3, a4, a5, rfl⟩
  · rfl
  · rfl
  · rw [psum_of _ (by omega)] at a5
    have := (clt_le (b := b + 1) (xs := xs)).2
    omega
set_option maxRecDepth 100000 in
set_option maxHeartbeats 4000000 in
theorem law_HistCounts {w : World} {R : Kn} {L : List HP}  (hS : St w R (L)) {v0 v1 : Value} {xs : List Int} {rows : List (List Int)} {a : Int} (h0 : Ro R (encI .i64) 1 v0 xs) (hf : ∀ x ∈ xs, fits x) (hm : xs.length ≤ 140737488355328) (h1 : Ro R encA 65 v1 rows) (hg : ∀ h ∈ rows, ∀ x ∈ h, fits x) (hn : rows.length ≤ 140737488355328) (ha : fits a) :
    Fn Try.prog 3 #[v0, v1, .int .i64 a] w (fun v w' => v = .bool true ∧ St w' R L) := by
  have hrl := rows_len h1
  obtain ⟨a0, c0, rfl, hl0⟩ := h0.len
  obtain ⟨a1, c1, rfl, hl1⟩ := h1.len
  refine Fn.intro (n := 108) Try.func3 rfl rfl rfl ?_
  refine WR.seq ?_
  refine WR.region rfl ?_
  refine S.assignC rfl ?_
  refine WS.done ?_
  refine WR.seq ?_
  refine WR.seq ?_
  refine WR.region rfl ?_
  refine S.call ent8 rfl (l5_alive hS ) rfl ?_
  rintro _ w18 ⟨rfl, hS18⟩
  clear hS
  refine S.not rfl rfl ?_
  refine WS.done ?_
  refine WR.condF rfl ?_
  refine WR.skip ?_
  refine WR.seq ?_
  refine WR.seq ?_
  refine WR.region rfl ?_
  refine S.moveT rfl ?_
  refine S.lenSl Try.underlying22 rfl rfl ?_
  refine S.gtr rfl rfl rfl ?_
  refine S.moveT rfl ?_
  refine S.splitD (d := 23) rfl (fun c23 => ?_) (fun c23 => ?_)
  ·
    skip
    refine S.off rfl ?_
    refine S.off rfl ?_
    refine S.off rfl ?_
    refine S.pickTC rfl rfl ?_
    refine WS.done ?_
    refine WR.condT rfl ?_
    refine WR.seq ?_
    refine WR.region rfl ?_
    refine S.assignC rfl ?_
    refine WS.done ?_
    refine WR.ret (ret1 rfl rfl ?_)
    first | exact ⟨rfl, hS18⟩ | exact ⟨rfl, hS18.weak (hR29.trans hR46)⟩ | exact ⟨rfl, hS18.weak (hR29.trans (hR46.trans (hR85.trans hR87)))⟩
  ·
    skip
    refine S.moveT rfl ?_
    refine S.lenSl Try.underlying23 rfl rfl ?_
    refine S.gtr rfl rfl rfl ?_
    refine S.pickF rfl rfl ?_
    refine WS.done ?_
    refine WR.condD rfl (fun c27 => ?_) (fun c27 => ?_)
    ·
      skip
      refine WR.seq ?_
      refine WR.region rfl ?_
      refine S.assignC rfl ?_
      refine WS.done ?_
      refine WR.ret (ret1 rfl rfl ?_)
      first | exact ⟨rfl, hS18⟩ | exact ⟨rfl, hS18.weak (hR29.trans hR46)⟩ | exact ⟨rfl, hS18.weak (hR29.trans (hR46.trans (hR85.trans hR87)))⟩
    ·
      skip
      refine WR.skip ?_
      refine WR.seq ?_
      have hn20 : rows.length ≤ 20 := by omega
      have hn200 : xs.length ≤ 200 := by omega
      refine WR.region rfl ?_
      refine S.moveT rfl ?_
      refine S.call ent10 rfl (r_copyLongs hS18 (by exact h0) (by omega)) rfl ?_
      rintro v29 w29 hS29
      clear hS18
      obtain ⟨R29, hR29, hro29, hSf29⟩ := hS29.freeze (fun _ _ => rfl)
      replace h0 := h0.mono hR29
      replace h1 := h1.mono hR29
      refine S.call ent9 rfl (h_of hSf29 (by exact hro29) (by exact hf) (by omega)) rfl ?_
      rintro _ w30 ⟨rfl, hS30⟩
      clear hSf29
      refine S.alloc (cs := aI (List.replicate 65 0)) hS30 ti26 rfl rfl ?_
      intro b7 w7 hS7; clear hS30
      refine S.storeArr (i := 0) hS7 rfl ti26 (by first | assumption | exact rfl | exact tab_len | exact ofL_len | exact mrg_len | exact mixL_len | exact halfL_len | (rw [List.length_set]; first | assumption | exact ofL_len | exact mixL_len | exact halfL_len)) (by first | assumption | exact rfl | exact tab_len | exact ofL_len | exact mrg_len | exact mixL_len | exact halfL_len | (rw [List.length_set]; first | assumption | exact ofL_len | exact mixL_len | exact halfL_len)) rfl rfl rfl ?_
      intro w2001 hS2001; clear hS7
      refine WS.done ?_
      refine WR.seq ?_
      refine WR.region rfl ?_
      first
        | refine S.buildRow (vs := []) hS2001 Try.underlying29 ti26 rfl rfl rfl rfl rfl rfl rfl ?_
        | refine S.buildRow hS2001 Try.underlying29 ti26 rfl rfl rfl rfl rfl rfl rfl ?_
      intro b31 w31 hS31; clear hS2001
      have hSo := hS31.ownRow (enc := encA) (n := 65) (rows.take 0) rfl (fun _ h => by cases h) (by simp)
      refine S.assignT rfl ?_
      refine WS.done ?_
      refine WR.seq ?_
      refine WR.seq ?_
      refine WR.region rfl ?_
      refine S.assignC rfl ?_
      refine WS.done ?_
      refine WR.block ?_
      refine WR.loopE (fun rq mm rr wr => ∃ (i : Nat) (v8 : Value), mm = rows.length - i ∧ (i ≤ rows.length) ∧ rr 8 = v8 ∧ rr 9 = .int .i64 (i : Int) ∧ Agr [0, 1, 2, 7] rr rq ∧ St wr R29 (Ow 26 encA 65 v8 (rows.take i) :: blk b7 (.cells (aI (ofL xs)) 26 (0, 0)) :: L)) ⟨0, _, rfl, (by omega), rfl, rfl, ⟨rfl, rfl, rfl, rfl, trivial⟩, hSo⟩ ?_
      rintro mm rr w1001 ⟨i, v8, hm1001, hi, hr1001_8, hr1001_9, hA1001, hS1001⟩
      obtain ⟨rr, rfl⟩ := agrBack hA1001
      clear hA1001
      obtain ⟨rr, rfl⟩ := back2 (r := rr) hr1001_8 hr1001_9
      clear hr1001_8 hr1001_9
      refine WR.seq ?_
      refine WR.seq ?_
      refine WR.region rfl ?_
      refine S.moveT rfl ?_
      refine S.moveT rfl ?_
      refine S.lenSl Try.underlying23 rfl rfl ?_
      refine S.lss rfl rfl rfl ?_
      refine WS.done ?_
      refine WR.condD rfl (fun c35 => ?_) (fun c35 => ?_)
      ·
        skip
        refine WR.skip ?_
        refine WR.seq ?_
        refine WR.block ?_
        refine WR.region rfl ?_
        refine S.moveT rfl ?_
        refine S.moveT rfl ?_
        refine S.moveT rfl ?_
        refine S.indexRo h1 Try.underlying23 ti25 rfl rfl (by omega) rfl ?_
        intro ad41 u41 hu41 hl41 hc41
        refine S.loadEltA hS1001 hc41 hl41 Try.underlying25 ti25 rfl rfl ?_
        have hul41 := hrl _ (List.mem_of_getElem? hu41)
        refine S.buildRowP (n := 65) (vs := [aV _]) hS1001 Try.underlying29 ti26 rfl rfl rfl rfl rfl ?_ rfl ?_
        · intro v hv; simp only [List.mem_cons, List.not_mem_nil, or_false] at hv; first | (rcases hv with rfl | rfl; all_goals (exact (encA_len _).trans (by first | assumption | exact rfl | exact tab_len | exact ofL_len | exact mrg_len | exact mixL_len | exact halfL_len | (rw [List.length_set]; first | assumption | exact ofL_len | exact mixL_len | exact halfL_len)))) | (subst hv; exact (encA_len _).trans (by first | assumption | exact rfl | exact tab_len | exact ofL_len | exact mrg_len | exact mixL_len | exact halfL_len | (rw [List.length_set]; first | assumption | exact ofL_len | exact mixL_len | exact halfL_len)))
        intro b43 w43 hS43; clear hS1001
        refine S.appendTmp (i := 0) [u41] hS43 rfl rfl (by intro x hx; rw [List.mem_singleton] at hx; subst hx; exact hl41) Try.underlying29 ti26 rfl rfl rfl rfl encA_ones (by rw [List.length_take]; simp; omega) rfl ?_
        intro v44 w44 hS44; clear hS43
        refine S.assignT rfl ?_
        refine WS.done ?_
        refine WR.region rfl ?_
        refine S.moveT rfl ?_
        first
          | refine S.addN rfl rfl rfl (by omega) ?_
          | refine S.add rfl rfl rfl ?_
        refine S.assignT rfl ?_
        refine WS.done ?_
        exact ⟨_, (by omega), ⟨i + 1, v44, rfl, (by omega), rfl, rfl, ⟨rfl, rfl, rfl, rfl, trivial⟩, (by rw [take_snoc (getI hu41)]; exact hS44)⟩⟩
      ·
        skip
        refine WR.exit ?_
        refine WR.seq ?_
        refine WR.region rfl ?_
        rw [List.take_of_length_le (by omega)] at hS1001
        obtain ⟨R46, hR46, hro46, hSf46⟩ := hS1001.freeze (fun x hx => by rw [encA_len]; exact hrl x hx)
        obtain ⟨a8, c8, rfl, hl8⟩ := hro46.len
        replace h0 := h0.mono hR46
        replace h1 := h1.mono hR46
        replace hro29 := hro29.mono hR46
        refine S.moveT rfl ?_
        refine S.call ent11 rfl (h_merge hSf46 (by exact hro46) (by exact hg) (by omega)) rfl ?_
        rintro _ w47 ⟨rfl, hS47⟩
        clear hSf46
        refine S.moveT rfl ?_
        refine S.extract rfl rfl rfl ?_
        refine S.extract rfl rfl rfl ?_
        refine S.alloc (cs := aI (List.replicate 65 0)) hS47 ti26 rfl rfl ?_
        intro b10 w10 hS10; clear hS47
        refine S.storeArr (i := 0) hS10 rfl ti26 (by first | assumption | exact rfl | exact tab_len | exact ofL_len | exact mrg_len | exact mixL_len | exact halfL_len | (rw [List.length_set]; first | assumption | exact ofL_len | exact mixL_len | exact halfL_len)) (by first | assumption | exact rfl | exact tab_len | exact ofL_len | exact mrg_len | exact mixL_len | exact halfL_len | (rw [List.length_set]; first | assumption | exact ofL_len | exact mixL_len | exact halfL_len)) rfl rfl rfl ?_
        intro w2002 hS2002; clear hS10
        refine S.assignT rfl ?_
        refine WS.done ?_
        refine WR.seq ?_
        refine WR.region rfl ?_
        refine S.moveT rfl ?_
        refine S.call ent12 rfl (h5_merge hS2002 (by exact h1) (by exact hg) (by omega)) rfl ?_
        rintro _ w52 ⟨rfl, hS52⟩
        clear hS2002
        refine S.moveT rfl ?_
        refine S.extract rfl rfl rfl ?_
        refine S.extract rfl rfl rfl ?_
        refine S.alloc (cs := aI (List.replicate 65 0)) hS52 ti25 rfl rfl ?_
        intro b12 w12 hS12; clear hS52
        refine S.storeArr (i := 0) hS12 rfl ti25 (by first | assumption | exact rfl | exact tab_len | exact ofL_len | exact mrg_len | exact mixL_len | exact halfL_len | (rw [List.length_set]; first | assumption | exact ofL_len | exact mixL_len | exact halfL_len)) (by first | assumption | exact rfl | exact tab_len | exact ofL_len | exact mrg_len | exact mixL_len | exact halfL_len | (rw [List.length_set]; first | assumption | exact ofL_len | exact mixL_len | exact halfL_len)) rfl rfl rfl ?_
        intro w2003 hS2003; clear hS12
        refine S.assignT rfl ?_
        refine WS.done ?_
        refine WR.seq ?_
        refine WR.seq ?_
        refine WR.regionW (fun j => false) 14 rfl mixed hS2003 ?_
        intro w6004 hS6004; clear hS2003; have hC := hS6004
        refine WA.take (fuel := 13) 0 rfl (by kernel_rfl) (by kernel_rfl) (by kernel_rfl) (by kernel_rfl) rfl rfl hC ?_
        refine Q.loadArr (i := 2) rfl Try.underlying26 ti26 (by first | assumption | exact rfl | exact tab_len | exact ofL_len | exact mrg_len | exact mixL_len | exact halfL_len | (rw [List.length_set]; first | assumption | exact ofL_len | exact mixL_len | exact halfL_len)) rfl rfl ?_
        refine WQ.done ?_
        refine WA.take (fuel := 12) 1 rfl (by kernel_rfl) (by kernel_rfl) (by kernel_rfl) (by kernel_rfl) rfl rfl hC ?_
        refine Q.moveT rfl ?_
        refine WQ.done ?_
        refine WA.one (fuel := 11) 2 rfl (by kernel_rfl) rfl ?_
        refine S.call ent13 rfl (h5_of hS6004 (by exact h0) (by exact hf) (by omega)) rfl ?_
        rintro _ w57 ⟨rfl, hS57⟩
        clear hS6004
        refine WS.done ⟨fun _ => hS57, ?_⟩
        replace hC := hS57
        refine WA.take (fuel := 10) 3 rfl (by kernel_rfl) (by kernel_rfl) (by kernel_rfl) (by kernel_rfl) rfl rfl hC ?_
        refine Q.neqS rfl rfl (by kernel_rfl) (Eq1.arrT Try.underlying26 ti2 Try.underlying2 (by first | assumption | exact rfl | exact tab_len | exact ofL_len | exact mrg_len | exact mixL_len | exact halfL_len | (rw [List.length_set]; first | assumption | exact ofL_len | exact mixL_len | exact halfL_len)) (by first | assumption | exact rfl | exact tab_len | exact ofL_len | exact mrg_len | exact mixL_len | exact halfL_len | (rw [List.length_set]; first | assumption | exact ofL_len | exact mixL_len | exact halfL_len))) rfl ?_
        refine Q.isFD (d := 58) rfl (by simp) ?_
        refine WQ.done ?_
        refine WA.take (fuel := 9) 4 rfl (by kernel_rfl) (by kernel_rfl) (by kernel_rfl) (by kernel_rfl) rfl rfl hC ?_
        refine Q.moveT rfl ?_
        refine WQ.done ?_
        refine WA.take (fuel := 8) 5 rfl (by kernel_rfl) (by kernel_rfl) (by kernel_rfl) (by kernel_rfl) rfl rfl hC ?_
        refine Q.loadArr (i := 1) rfl Try.underlying26 ti26 (by first | assumption | exact rfl | exact tab_len | exact ofL_len | exact mrg_len | exact mixL_len | exact halfL_len | (rw [List.length_set]; first | assumption | exact ofL_len | exact mixL_len | exact halfL_len)) rfl rfl ?_
        refine WQ.done ?_
        refine WA.take (fuel := 7) 6 rfl (by kernel_rfl) (by kernel_rfl) (by kernel_rfl) (by kernel_rfl) rfl rfl hC ?_
        refine Q.loadArr (i := 0) rfl Try.underlying25 ti25 (by first | assumption | exact rfl | exact tab_len | exact ofL_len | exact mrg_len | exact mixL_len | exact halfL_len | (rw [List.length_set]; first | assumption | exact ofL_len | exact mixL_len | exact halfL_len)) rfl rfl ?_
        refine WQ.done ?_
        refine WA.take (fuel := 6) 7 rfl (by kernel_rfl) (by kernel_rfl) (by kernel_rfl) (by kernel_rfl) rfl rfl hC ?_
        refine Q.neqS rfl rfl (by kernel_rfl) (Eq1.arrT Try.underlying26 ti2 Try.underlying2 (by first | assumption | exact rfl | exact tab_len | exact ofL_len | exact mrg_len | exact mixL_len | exact halfL_len | (rw [List.length_set]; first | assumption | exact ofL_len | exact mixL_len | exact halfL_len)) (by first | assumption | exact rfl | exact tab_len | exact ofL_len | exact mrg_len | exact mixL_len | exact halfL_len | (rw [List.length_set]; first | assumption | exact ofL_len | exact mixL_len | exact halfL_len))) rfl ?_
        refine Q.isFD (d := 62) rfl (by simp) ?_
        refine WQ.done ?_
        refine WA.take (fuel := 5) 8 rfl (by kernel_rfl) (by kernel_rfl) (by kernel_rfl) (by kernel_rfl) rfl rfl hC ?_
        refine Q.pickF rfl rfl ?_
        refine WQ.done ?_
        refine WA.take (fuel := 4) 9 rfl (by kernel_rfl) (by kernel_rfl) (by kernel_rfl) (by kernel_rfl) rfl rfl hC ?_
        refine Q.moveT rfl ?_
        refine WQ.done ?_
        refine WA.take (fuel := 3) 10 rfl (by kernel_rfl) (by kernel_rfl) (by kernel_rfl) (by kernel_rfl) rfl rfl hC ?_
        refine Q.moveT rfl ?_
        refine WQ.done ?_
        refine WA.take (fuel := 2) 11 rfl (by kernel_rfl) (by kernel_rfl) (by kernel_rfl) (by kernel_rfl) rfl rfl hC ?_
        refine Q.moveT rfl ?_
        refine WQ.done ?_
        refine WA.take (fuel := 1) 12 rfl (by kernel_rfl) (by kernel_rfl) (by kernel_rfl) (by kernel_rfl) rfl rfl hC ?_
        refine Q.neq rfl rfl rfl ?_
        refine Q.isFD (d := 67) rfl (by simp) ?_
        refine WQ.done ?_
        refine WA.take (fuel := 0) 13 rfl (by kernel_rfl) (by kernel_rfl) (by kernel_rfl) (by kernel_rfl) rfl rfl hC ?_
        refine Q.pickF rfl rfl ?_
        refine WQ.done ?_
        refine WA.done (by kernel_rfl) ?_
        clear hC
        refine WR.condF rfl ?_
        refine WR.skip ?_
        refine WR.seq ?_
        refine WR.seq ?_
        refine WR.region rfl ?_
        refine S.moveT rfl ?_
        refine S.lenSl Try.underlying23 rfl rfl ?_
        refine S.eql rfl rfl rfl ?_
        refine WS.done ?_
        refine WR.condD rfl (fun c71 => ?_) (fun c71 => ?_)
        ·
          skip
          refine WR.seq ?_
          refine WR.region rfl ?_
          refine S.assignC rfl ?_
          refine WS.done ?_
          refine WR.ret (ret1 rfl rfl ?_)
          first | exact ⟨rfl, hS57⟩ | exact ⟨rfl, hS57.drop.drop.drop.weak (hR29.trans hR46)⟩ | exact ⟨rfl, hS57.drop.drop.drop.weak (hR29.trans (hR46.trans (hR85.trans hR87)))⟩
        ·
          skip
          refine WR.skip ?_
          refine WR.seq ?_
          refine WR.region rfl ?_
          refine S.moveT rfl ?_
          refine S.indexRo hro46 Try.underlying29 ti26 rfl rfl (by omega) rfl ?_
          intro ad74 u74 hu74 hl74 hc74
          have hul74 := hrl _ (List.mem_of_getElem? hu74)
          have huf74 := hg _ (List.mem_of_getElem? hu74)
          refine S.loadEltA hS57 hc74 hl74 Try.underlying26 ti26 rfl rfl ?_
          refine S.moveT rfl ?_
          refine S.call ent14 rfl (h_add hS57 (by exact hul74) (by exact huf74) (by exact ha)) rfl ?_
          rintro _ w77 ⟨rfl, hS77⟩
          clear hS57
          refine S.moveT rfl ?_
          refine S.extract rfl rfl rfl ?_
          refine S.extract rfl rfl rfl ?_
          refine S.alloc (cs := aI (List.replicate 65 0)) hS77 ti26 rfl rfl ?_
          intro b14 w14 hS14; clear hS77
          refine S.storeArr (i := 0) hS14 rfl ti26 (by first | assumption | exact rfl | exact tab_len | exact ofL_len | exact mrg_len | exact mixL_len | exact halfL_len | (rw [List.length_set]; first | assumption | exact ofL_len | exact mixL_len | exact halfL_len)) (by first | assumption | exact rfl | exact tab_len | exact ofL_len | exact mrg_len | exact mixL_len | exact halfL_len | (rw [List.length_set]; first | assumption | exact ofL_len | exact mixL_len | exact halfL_len)) rfl rfl rfl ?_
          intro w2005 hS2005; clear hS14
          refine S.assignT rfl ?_
          refine WS.done ?_
          refine WR.seq ?_
          refine WR.regionW (fun j => Nat.beq j 12 || Nat.beq j 13) 14 rfl mixed hS2005 ?_
          intro w6006 hS6006; clear hS2005; have hC := hS6006
          refine WA.take (fuel := 13) 0 rfl (by kernel_rfl) (by kernel_rfl) (by kernel_rfl) (by kernel_rfl) rfl rfl hC ?_
          refine Q.moveT rfl ?_
          refine WQ.done ?_
          refine WA.take (fuel := 12) 1 rfl (by kernel_rfl) (by kernel_rfl) (by kernel_rfl) (by kernel_rfl) rfl rfl hC ?_
          refine Q.indexRo h1 Try.underlying23 ti25 rfl rfl (by omega) rfl ?_
          intro ad82 u82 hu82 hl82 hc82
          obtain rfl : u82 = u74 := Option.some.inj (hu82.symm.trans hu74)
          refine WQ.done ?_
          refine WA.take (fuel := 11) 2 rfl (by kernel_rfl) (by kernel_rfl) (by kernel_rfl) (by kernel_rfl) rfl rfl hC ?_
          refine Q.loadEltA hc82 hl82 Try.underlying25 ti25 rfl rfl ?_
          refine WQ.done ?_
          refine WA.take (fuel := 10) 3 rfl (by kernel_rfl) (by kernel_rfl) (by kernel_rfl) (by kernel_rfl) rfl rfl hC ?_
          refine Q.moveT rfl ?_
          refine WQ.done ?_
          refine WA.two (fuel := 9) 4 11 rfl rfl (by kernel_rfl) rfl ?_ ?_
          ·
            skip
            first
              | refine S.buildRow (vs := [.int _ _]) hS6006 Try.underlying22 ti2 rfl rfl rfl rfl rfl rfl rfl ?_
              | refine S.buildRow hS6006 Try.underlying22 ti2 rfl rfl rfl rfl rfl rfl rfl ?_
            intro b85 w85 hS85; clear hS6006
            obtain ⟨R85, hR85, hro85, hSf85⟩ := hS85.keepRow (enc := encI .i64) (n := 1) [a] rfl (fun _ _ => rfl)
            replace h0 := h0.mono hR85
            replace h1 := h1.mono hR85
            replace hro29 := hro29.mono hR85
            replace hro46 := hro46.mono hR85
            refine WS.done ⟨fun _ => (hSf85.weak hR85), ?_⟩
            replace hC := (hSf85.weak hR85)
            refine WA.two (fuel := 8) 5 11 rfl rfl (by kernel_rfl) rfl ?_ ?_
            ·
              skip
              refine S.call ent13 rfl (h5_of hSf85 (by exact hro85) (by simpa using ha) (by simp)) rfl ?_
              rintro _ w86 ⟨rfl, hS86⟩
              clear hSf85
              refine WS.done ⟨fun _ => (hS86.weak hR85), ?_⟩
              replace hC := (hS86.weak hR85)
              refine WA.two (fuel := 7) 6 11 rfl rfl (by kernel_rfl) rfl ?_ ?_
              ·
                skip
                refine S.buildRowP (n := 65) (vs := [aV _, aV _]) hS86 Try.underlying23 ti25 rfl rfl rfl rfl rfl ?_ rfl ?_
                · intro v hv; simp only [List.mem_cons, List.not_mem_nil, or_false] at hv; first | (rcases hv with rfl | rfl; all_goals (exact (encA_len _).trans (by first | assumption | exact rfl | exact tab_len | exact ofL_len | exact mrg_len | exact mixL_len | exact halfL_len | (rw [List.length_set]; first | assumption | exact ofL_len | exact mixL_len | exact halfL_len)))) | (subst hv; exact (encA_len _).trans (by first | assumption | exact rfl | exact tab_len | exact ofL_len | exact mrg_len | exact mixL_len | exact halfL_len | (rw [List.length_set]; first | assumption | exact ofL_len | exact mixL_len | exact halfL_len)))
                intro b87 w87 hS87; clear hS86
                obtain ⟨R87, hR87, hro87, hSf87⟩ := hS87.keepRow (enc := encA) (n := 65) [u82, ofL [a]] rfl (by intro x hx; rw [encA_len]; simp only [List.mem_cons, List.not_mem_nil, or_false] at hx; first | (rcases hx with rfl | rfl; all_goals (first | assumption | exact rfl | exact tab_len | exact ofL_len | exact mrg_len | exact mixL_len | exact halfL_len)) | (subst hx; first | assumption | exact rfl | exact tab_len | exact ofL_len | exact mrg_len | exact mixL_len | exact halfL_len))
                replace h0 := h0.mono hR87
                replace h1 := h1.mono hR87
                replace hro29 := hro29.mono hR87
                replace hro46 := hro46.mono hR87
                replace hro85 := hro85.mono hR87
                refine WS.done ⟨fun _ => ((hSf87.weak hR87).weak hR85), ?_⟩
                replace hC := ((hSf87.weak hR87).weak hR85)
                refine WA.two (fuel := 6) 7 11 rfl rfl (by kernel_rfl) rfl ?_ ?_
                ·
                  skip
                  refine S.call ent12 rfl (h5_merge hSf87 (by exact hro87) (by exact rows_two huf74 (ofL_fits (by simp))) (by simp)) rfl ?_
                  rintro _ w88 ⟨rfl, hS88⟩
                  clear hSf87
                  refine WS.done ⟨fun _ => ((hS88.weak hR87).weak hR85), ?_⟩
                  replace hC := ((hS88.weak hR87).weak hR85)
                  refine WA.take (fuel := 5) 8 rfl (by kernel_rfl) (by kernel_rfl) (by kernel_rfl) (by kernel_rfl) rfl rfl hC ?_
                  refine Q.moveT rfl ?_
                  refine WQ.done ?_
                  refine WA.take (fuel := 4) 9 rfl (by kernel_rfl) (by kernel_rfl) (by kernel_rfl) (by kernel_rfl) rfl rfl hC ?_
                  refine Q.extract rfl rfl rfl ?_
                  refine WQ.done ?_
                  refine WA.takeP (fuel := 3) 10 rfl (by kernel_rfl) (by kernel_rfl) (by kernel_rfl) rfl rfl ?_
                  refine Q.extract rfl rfl rfl ?_
                  refine WQ.done ?_
                  refine WA.one (fuel := 2) 11 rfl (by kernel_rfl) rfl ?_
                  refine S.alloc (cs := aI (List.replicate 65 0)) hS88 ti25 rfl rfl ?_
                  intro b16 w16 hS16; clear hS88
                  refine WS.done ⟨fun _ => ((hS16.drop.weak hR87).weak hR85), ?_⟩
                  replace hC := ((hS16.drop.weak hR87).weak hR85)
                  refine WA.one (fuel := 1) 12 rfl (by kernel_rfl) rfl ?_
                  refine S.storeArr (i := 0) hS16 rfl ti25 (by first | assumption | exact rfl | exact tab_len | exact ofL_len | exact mrg_len | exact mixL_len | exact halfL_len | (rw [List.length_set]; first | assumption | exact ofL_len | exact mixL_len | exact halfL_len)) (by first | assumption | exact rfl | exact tab_len | exact ofL_len | exact mrg_len | exact mixL_len | exact halfL_len | (rw [List.length_set]; first | assumption | exact ofL_len | exact mixL_len | exact halfL_len)) rfl rfl rfl ?_
                  intro w2007 hS2007; clear hS16
                  refine WS.done ⟨fun h => absurd h (by decide), ?_⟩
                  refine WA.one (fuel := 0) 13 rfl (by kernel_rfl) rfl ?_
                  refine S.assignT rfl ?_
                  refine WS.done ⟨fun h => absurd h (by decide), ?_⟩
                  refine WA.done (by kernel_rfl) ?_
                  clear hC
                  refine WR.seq ?_
                  refine WR.regionW (fun j => false) 18 rfl mixed hS2007 ?_
                  intro w6008 hS6008; clear hS2007; have hC := hS6008
                  refine WA.take (fuel := 17) 0 rfl (by kernel_rfl) (by kernel_rfl) (by kernel_rfl) (by kernel_rfl) rfl rfl hC ?_
                  refine Q.loadArr (i := 1) rfl Try.underlying26 ti26 (by first | assumption | exact rfl | exact tab_len | exact ofL_len | exact mrg_len | exact mixL_len | exact halfL_len | (rw [List.length_set]; first | assumption | exact ofL_len | exact mixL_len | exact halfL_len)) rfl rfl ?_
                  refine WQ.done ?_
                  refine WA.take (fuel := 16) 1 rfl (by kernel_rfl) (by kernel_rfl) (by kernel_rfl) (by kernel_rfl) rfl rfl hC ?_
                  refine Q.loadArr (i := 0) rfl Try.underlying25 ti25 (by first | assumption | exact rfl | exact tab_len | exact ofL_len | exact mrg_len | exact mixL_len | exact halfL_len | (rw [List.length_set]; first | assumption | exact ofL_len | exact mixL_len | exact halfL_len)) rfl rfl ?_
                  refine WQ.done ?_
                  refine WA.take (fuel := 15) 2 rfl (by kernel_rfl) (by kernel_rfl) (by kernel_rfl) (by kernel_rfl) rfl rfl hC ?_
                  refine Q.eqlS rfl rfl (by kernel_rfl) (Eq1.arrT Try.underlying26 ti2 Try.underlying2 (by first | assumption | exact rfl | exact tab_len | exact ofL_len | exact mrg_len | exact mixL_len | exact halfL_len | (rw [List.length_set]; first | assumption | exact ofL_len | exact mixL_len | exact halfL_len)) (by first | assumption | exact rfl | exact tab_len | exact ofL_len | exact mrg_len | exact mixL_len | exact halfL_len | (rw [List.length_set]; first | assumption | exact ofL_len | exact mixL_len | exact halfL_len))) rfl ?_
                  refine Q.isTD (d := 93) rfl (by rfl) ?_
                  refine WQ.done ?_
                  refine WA.take (fuel := 14) 3 rfl (by kernel_rfl) (by kernel_rfl) (by kernel_rfl) (by kernel_rfl) rfl rfl hC ?_
                  refine Q.moveT rfl ?_
                  refine WQ.done ?_
                  refine WA.take (fuel := 13) 4 rfl (by kernel_rfl) (by kernel_rfl) (by kernel_rfl) (by kernel_rfl) rfl rfl hC ?_
                  refine Q.moveT rfl ?_
                  refine WQ.done ?_
                  refine WA.take (fuel := 12) 5 rfl (by kernel_rfl) (by kernel_rfl) (by kernel_rfl) (by kernel_rfl) rfl rfl hC ?_
                  refine Q.moveT rfl ?_
                  refine WQ.done ?_
                  refine WA.take (fuel := 11) 6 rfl (by kernel_rfl) (by kernel_rfl) (by kernel_rfl) (by kernel_rfl) rfl rfl hC ?_
                  refine Q.eql rfl rfl rfl ?_
                  refine Q.isTD (d := 97) rfl (by rfl) ?_
                  refine WQ.done ?_
                  refine WA.take (fuel := 10) 7 rfl (by kernel_rfl) (by kernel_rfl) (by kernel_rfl) (by kernel_rfl) rfl rfl hC ?_
                  refine Q.pickT rfl rfl ?_
                  refine WQ.done ?_
                  refine WA.take (fuel := 9) 8 rfl (by kernel_rfl) (by kernel_rfl) (by kernel_rfl) (by kernel_rfl) rfl rfl hC ?_
                  refine Q.moveT rfl ?_
                  refine WQ.done ?_
                  refine WA.take (fuel := 8) 9 rfl (by kernel_rfl) (by kernel_rfl) (by kernel_rfl) (by kernel_rfl) rfl rfl hC ?_
                  refine Q.moveT rfl ?_
                  refine WQ.done ?_
                  refine WA.take (fuel := 7) 10 rfl (by kernel_rfl) (by kernel_rfl) (by kernel_rfl) (by kernel_rfl) rfl rfl hC ?_
                  refine Q.indexRo hro46 Try.underlying29 ti26 rfl rfl (by omega) rfl ?_
                  intro ad101 u101 hu101 hl101 hc101
                  obtain rfl : u101 = u82 := Option.some.inj (hu101.symm.trans hu82)
                  refine WQ.done ?_
                  refine WA.take (fuel := 6) 11 rfl (by kernel_rfl) (by kernel_rfl) (by kernel_rfl) (by kernel_rfl) rfl rfl hC ?_
                  refine Q.loadEltA hc101 hl101 Try.underlying26 ti26 rfl rfl ?_
                  refine WQ.done ?_
                  refine WA.take (fuel := 5) 12 rfl (by kernel_rfl) (by kernel_rfl) (by kernel_rfl) (by kernel_rfl) rfl rfl hC ?_
                  refine Q.moveT rfl ?_
                  refine WQ.done ?_
                  refine WA.take (fuel := 4) 13 rfl (by kernel_rfl) (by kernel_rfl) (by kernel_rfl) (by kernel_rfl) rfl rfl hC ?_
                  refine Q.indexRo h1 Try.underlying23 ti25 rfl rfl (by omega) rfl ?_
                  intro ad104 u104 hu104 hl104 hc104
                  obtain rfl : u104 = u101 := Option.some.inj (hu104.symm.trans hu101)
                  refine WQ.done ?_
                  refine WA.take (fuel := 3) 14 rfl (by kernel_rfl) (by kernel_rfl) (by kernel_rfl) (by kernel_rfl) rfl rfl hC ?_
                  refine Q.loadEltA hc104 hl104 Try.underlying25 ti25 rfl rfl ?_
                  refine WQ.done ?_
                  refine WA.take (fuel := 2) 15 rfl (by kernel_rfl) (by kernel_rfl) (by kernel_rfl) (by kernel_rfl) rfl rfl hC ?_
                  refine Q.eqlS rfl rfl (by kernel_rfl) (Eq1.arrT Try.underlying26 ti2 Try.underlying2 (by first | assumption | exact rfl | exact tab_len | exact ofL_len | exact mrg_len | exact mixL_len | exact halfL_len | (rw [List.length_set]; first | assumption | exact ofL_len | exact mixL_len | exact halfL_len)) (by first | assumption | exact rfl | exact tab_len | exact ofL_len | exact mrg_len | exact mixL_len | exact halfL_len | (rw [List.length_set]; first | assumption | exact ofL_len | exact mixL_len | exact halfL_len))) rfl ?_
                  refine Q.isTD (d := 106) rfl (by rfl) ?_
                  refine WQ.done ?_
                  refine WA.take (fuel := 1) 16 rfl (by kernel_rfl) (by kernel_rfl) (by kernel_rfl) (by kernel_rfl) rfl rfl hC ?_
                  refine Q.pickT rfl rfl ?_
                  refine WQ.done ?_
                  refine WA.take (fuel := 0) 17 rfl (by kernel_rfl) (by kernel_rfl) (by kernel_rfl) (by kernel_rfl) rfl rfl hC ?_
                  refine Q.assignT rfl ?_
                  refine WQ.done ?_
                  refine WA.done (by kernel_rfl) ?_
                  clear hC
                  refine WR.ret (ret1 rfl rfl ?_)
                  first | exact ⟨rfl, hS6008⟩ | exact ⟨rfl, hS6008.drop.drop.drop.drop.drop.weak (hR29.trans hR46)⟩ | exact ⟨rfl, hS6008.drop.drop.drop.drop.drop.weak (hR29.trans (hR46.trans (hR85.trans hR87)))⟩
                ·
                  skip
                  refine S.alloc (cs := aI (List.replicate 65 0)) hSf87 ti25 rfl rfl ?_
                  intro b16 w16 hS16; clear hSf87
                  refine WS.done ⟨fun _ => ((hS16.drop.weak hR87).weak hR85), ?_⟩
                  replace hC := ((hS16.drop.weak hR87).weak hR85)
                  refine WA.one (fuel := 5) 7 rfl (by kernel_rfl) rfl ?_
                  refine S.call ent12 rfl (h5_merge hS16 (by exact hro87) (by exact rows_two huf74 (ofL_fits (by simp))) (by simp)) rfl ?_
                  rintro _ w88 ⟨rfl, hS88⟩
                  clear hS16
                  refine WS.done ⟨fun _ => ((hS88.drop.weak hR87).weak hR85), ?_⟩
                  replace hC := ((hS88.drop.weak hR87).weak hR85)
                  refine WA.take (fuel := 4) 8 rfl (by kernel_rfl) (by kernel_rfl) (by kernel_rfl) (by kernel_rfl) rfl rfl hC ?_
                  refine Q.moveT rfl ?_
                  refine WQ.done ?_
                  refine WA.take (fuel := 3) 9 rfl (by kernel_rfl) (by kernel_rfl) (by kernel_rfl) (by kernel_rfl) rfl rfl hC ?_
                  refine Q.extract rfl rfl rfl ?_
                  refine WQ.done ?_
                  refine WA.takeP (fuel := 2) 10 rfl (by kernel_rfl) (by kernel_rfl) (by kernel_rfl) rfl rfl ?_
                  refine Q.extract rfl rfl rfl ?_
                  refine WQ.done ?_
                  refine WA.one (fuel := 1) 12 rfl (by kernel_rfl) rfl ?_
                  refine S.storeArr (i := 0) hS88 rfl ti25 (by first | assumption | exact rfl | exact tab_len | exact ofL_len | exact mrg_len | exact mixL_len | exact halfL_len | (rw [List.length_set]; first | assumption | exact ofL_len | exact mixL_len | exact halfL_len)) (by first | assumption | exact rfl | exact tab_len | exact ofL_len | exact mrg_len | exact mixL_len | exact halfL_len | (rw [List.length_set]; first | assumption | exact ofL_len | exact mixL_len | exact halfL_len)) rfl rfl rfl ?_
                  intro w2009 hS2009; clear hS88
                  refine WS.done ⟨fun h => absurd h (by decide), ?_⟩
                  refine WA.one (fuel := 0) 13 rfl (by kernel_rfl) rfl ?_
                  refine S.assignT rfl ?_
                  refine WS.done ⟨fun h => absurd h (by decide), ?_⟩
                  refine WA.done (by kernel_rfl) ?_
                  clear hC
                  refine WR.seq ?_
                  refine WR.regionW (fun j => false) 18 rfl mixed hS2009 ?_
                  intro w6010 hS6010; clear hS2009; have hC := hS6010
                  refine WA.take (fuel := 17) 0 rfl (by kernel_rfl) (by kernel_rfl) (by kernel_rfl) (by kernel_rfl) rfl rfl hC ?_
                  refine Q.loadArr (i := 1) rfl Try.underlying26 ti26 (by first | assumption | exact rfl | exact tab_len | exact ofL_len | exact mrg_len | exact mixL_len | exact halfL_len | (rw [List.length_set]; first | assumption | exact ofL_len | exact mixL_len | exact halfL_len)) rfl rfl ?_
                  refine WQ.done ?_
                  refine WA.take (fuel := 16) 1 rfl (by kernel_rfl) (by kernel_rfl) (by kernel_rfl) (by kernel_rfl) rfl rfl hC ?_
                  refine Q.loadArr (i := 0) rfl Try.underlying25 ti25 (by first | assumption | exact rfl | exact tab_len | exact ofL_len | exact mrg_len | exact mixL_len | exact halfL_len | (rw [List.length_set]; first | assumption | exact ofL_len | exact mixL_len | exact halfL_len)) rfl rfl ?_
                  refine WQ.done ?_
                  refine WA.take (fuel := 15) 2 rfl (by kernel_rfl) (by kernel_rfl) (by kernel_rfl) (by kernel_rfl) rfl rfl hC ?_
                  refine Q.eqlS rfl rfl (by kernel_rfl) (Eq1.arrT Try.underlying26 ti2 Try.underlying2 (by first | assumption | exact rfl | exact tab_len | exact ofL_len | exact mrg_len | exact mixL_len | exact halfL_len | (rw [List.length_set]; first | assumption | exact ofL_len | exact mixL_len | exact halfL_len)) (by first | assumption | exact rfl | exact tab_len | exact ofL_len | exact mrg_len | exact mixL_len | exact halfL_len | (rw [List.length_set]; first | assumption | exact ofL_len | exact mixL_len | exact halfL_len))) rfl ?_
                  refine Q.isTD (d := 93) rfl (by rfl) ?_
                  refine WQ.done ?_
                  refine WA.take (fuel := 14) 3 rfl (by kernel_rfl) (by kernel_rfl) (by kernel_rfl) (by kernel_rfl) rfl rfl hC ?_
                  refine Q.moveT rfl ?_
                  refine WQ.done ?_
                  refine WA.take (fuel := 13) 4 rfl (by kernel_rfl) (by kernel_rfl) (by kernel_rfl) (by kernel_rfl) rfl rfl hC ?_
                  refine Q.moveT rfl ?_
                  refine WQ.done ?_
                  refine WA.take (fuel := 12) 5 rfl (by kernel_rfl) (by kernel_rfl) (by kernel_rfl) (by kernel_rfl) rfl rfl hC ?_
                  refine Q.moveT rfl ?_
                  refine WQ.done ?_
                  refine WA.take (fuel := 11) 6 rfl (by kernel_rfl) (by kernel_rfl) (by kernel_rfl) (by kernel_rfl) rfl rfl hC ?_
                  refine Q.eql rfl rfl rfl ?_
                  refine Q.isTD (d := 97) rfl (by rfl) ?_
                  refine WQ.done ?_
                  refine WA.take (fuel := 10) 7 rfl (by kernel_rfl) (by kernel_rfl) (by kernel_rfl) (by kernel_rfl) rfl rfl hC ?_
                  refine Q.pickT rfl rfl ?_
                  refine WQ.done ?_
                  refine WA.take (fuel := 9) 8 rfl (by kernel_rfl) (by kernel_rfl) (by kernel_rfl) (by kernel_rfl) rfl rfl hC ?_
                  refine Q.moveT rfl ?_
                  refine WQ.done ?_
                  refine WA.take (fuel := 8) 9 rfl (by kernel_rfl) (by kernel_rfl) (by kernel_rfl) (by kernel_rfl) rfl rfl hC ?_
                  refine Q.moveT rfl ?_
                  refine WQ.done ?_
                  refine WA.take (fuel := 7) 10 rfl (by kernel_rfl) (by kernel_rfl) (by kernel_rfl) (by kernel_rfl) rfl rfl hC ?_
                  refine Q.indexRo hro46 Try.underlying29 ti26 rfl rfl (by omega) rfl ?_
                  intro ad101 u101 hu101 hl101 hc101
                  obtain rfl : u101 = u82 := Option.some.inj (hu101.symm.trans hu82)
                  refine WQ.done ?_
                  refine WA.take (fuel := 6) 11 rfl (by kernel_rfl) (by kernel_rfl) (by kernel_rfl) (by kernel_rfl) rfl rfl hC ?_
                  refine Q.loadEltA hc101 hl101 Try.underlying26 ti26 rfl rfl ?_
                  refine WQ.done ?_
                  refine WA.take (fuel := 5) 12 rfl (by kernel_rfl) (by kernel_rfl) (by kernel_rfl) (by kernel_rfl) rfl rfl hC ?_
                  refine Q.moveT rfl ?_
                  refine WQ.done ?_
                  refine WA.take (fuel := 4) 13 rfl (by kernel_rfl) (by kernel_rfl) (by kernel_rfl) (by kernel_rfl) rfl rfl hC ?_
                  refine Q.indexRo h1 Try.underlying23 ti25 rfl rfl (by omega) rfl ?_
                  intro ad104 u104 hu104 hl104 hc104
                  obtain rfl : u104 = u101 := Option.some.inj (hu104.symm.trans hu101)
                  refine WQ.done ?_
                  refine WA.take (fuel := 3) 14 rfl (by kernel_rfl) (by kernel_rfl) (by kernel_rfl) (by kernel_rfl) rfl rfl hC ?_
                  refine Q.loadEltA hc104 hl104 Try.underlying25 ti25 rfl rfl ?_
                  refine WQ.done ?_
                  refine WA.take (fuel := 2) 15 rfl (by kernel_rfl) (by kernel_rfl) (by kernel_rfl) (by kernel_rfl) rfl rfl hC ?_
                  refine Q.eqlS rfl rfl (by kernel_rfl) (Eq1.arrT Try.underlying26 ti2 Try.underlying2 (by first | assumption | exact rfl | exact tab_len | exact ofL_len | exact mrg_len | exact mixL_len | exact halfL_len | (rw [List.length_set]; first | assumption | exact ofL_len | exact mixL_len | exact halfL_len)) (by first | assumption | exact rfl | exact tab_len | exact ofL_len | exact mrg_len | exact mixL_len | exact halfL_len | (rw [List.length_set]; first | assumption | exact ofL_len | exact mixL_len | exact halfL_len))) rfl ?_
                  refine Q.isTD (d := 106) rfl (by rfl) ?_
                  refine WQ.done ?_
                  refine WA.take (fuel := 1) 16 rfl (by kernel_rfl) (by kernel_rfl) (by kernel_rfl) (by kernel_rfl) rfl rfl hC ?_
                  refine Q.pickT rfl rfl ?_
                  refine WQ.done ?_
                  refine WA.take (fuel := 0) 17 rfl (by kernel_rfl) (by kernel_rfl) (by kernel_rfl) (by kernel_rfl) rfl rfl hC ?_
                  refine Q.assignT rfl ?_
                  refine WQ.done ?_
                  refine WA.done (by kernel_rfl) ?_
                  clear hC
                  refine WR.ret (ret1 rfl rfl ?_)
                  first | exact ⟨rfl, hS6010⟩ | exact ⟨rfl, hS6010.drop.drop.drop.drop.drop.weak (hR29.trans hR46)⟩ | exact ⟨rfl, hS6010.drop.drop.drop.drop.drop.weak (hR29.trans (hR46.trans (hR85.trans hR87)))⟩
              ·
                skip
                refine S.alloc (cs := aI (List.replicate 65 0)) hS86 ti25 rfl rfl ?_
                intro b16 w16 hS16; clear hS86
                refine WS.done ⟨fun _ => (hS16.drop.weak hR85), ?_⟩
                replace hC := (hS16.drop.weak hR85)
                refine WA.one (fuel := 6) 6 rfl (by kernel_rfl) rfl ?_
                refine S.buildRowP (n := 65) (vs := [aV _, aV _]) hS16 Try.underlying23 ti25 rfl rfl rfl rfl rfl ?_ rfl ?_
                · intro v hv; simp only [List.mem_cons, List.not_mem_nil, or_false] at hv; first | (rcases hv with rfl | rfl; all_goals (exact (encA_len _).trans (by first | assumption | exact rfl | exact tab_len | exact ofL_len | exact mrg_len | exact mixL_len | exact halfL_len | (rw [List.length_set]; first | assumption | exact ofL_len | exact mixL_len | exact halfL_len)))) | (subst hv; exact (encA_len _).trans (by first | assumption | exact rfl | exact tab_len | exact ofL_len | exact mrg_len | exact mixL_len | exact halfL_len | (rw [List.length_set]; first | assumption | exact ofL_len | exact mixL_len | exact halfL_len)))
                intro b87 w87 hS87; clear hS16
                obtain ⟨R87, hR87, hro87, hSf87⟩ := hS87.keepRow (enc := encA) (n := 65) [u82, ofL [a]] rfl (by intro x hx; rw [encA_len]; simp only [List.mem_cons, List.not_mem_nil, or_false] at hx; first | (rcases hx with rfl | rfl; all_goals (first | assumption | exact rfl | exact tab_len | exact ofL_len | exact mrg_len | exact mixL_len | exact halfL_len)) | (subst hx; first | assumption | exact rfl | exact tab_len | exact ofL_len | exact mrg_len | exact mixL_len | exact halfL_len))
                replace h0 := h0.mono hR87
                replace h1 := h1.mono hR87
                replace hro29 := hro29.mono hR87
                replace hro46 := hro46.mono hR87
                replace hro85 := hro85.mono hR87
                refine WS.done ⟨fun _ => ((hSf87.drop.weak hR87).weak hR85), ?_⟩
                replace hC := ((hSf87.drop.weak hR87).weak hR85)
                refine WA.one (fuel := 5) 7 rfl (by kernel_rfl) rfl ?_
                refine S.call ent12 rfl (h5_merge hSf87 (by exact hro87) (by exact rows_two huf74 (ofL_fits (by simp))) (by simp)) rfl ?_
                rintro _ w88 ⟨rfl, hS88⟩
                clear hSf87
                refine WS.done ⟨fun _ => ((hS88.drop.weak hR87).weak hR85), ?_⟩
                replace hC := ((hS88.drop.weak hR87).weak hR85)
                refine WA.take (fuel := 4) 8 rfl (by kernel_rfl) (by kernel_rfl) (by kernel_rfl) (by kernel_rfl) rfl rfl hC ?_
                refine Q.moveT rfl ?_
                refine WQ.done ?_
                refine WA.take (fuel := 3) 9 rfl (by kernel_rfl) (by kernel_rfl) (by kernel_rfl) (by kernel_rfl) rfl rfl hC ?_
                refine Q.extract rfl rfl rfl ?_
                refine WQ.done ?_
                refine WA.takeP (fuel := 2) 10 rfl (by kernel_rfl) (by kernel_rfl) (by kernel_rfl) rfl rfl ?_
                refine Q.extract rfl rfl rfl ?_
                refine WQ.done ?_
                refine WA.one (fuel := 1) 12 rfl (by kernel_rfl) rfl ?_
                refine S.storeArr (i := 0) hS88 rfl ti25 (by first | assumption | exact rfl | exact tab_len | exact ofL_len | exact mrg_len | exact mixL_len | exact halfL_len | (rw [List.length_set]; first | assumption | exact ofL_len | exact mixL_len | exact halfL_len)) (by first | assumption | exact rfl | exact tab_len | exact ofL_len | exact mrg_len | exact mixL_len | exact halfL_len | (rw [List.length_set]; first | assumption | exact ofL_len | exact mixL_len | exact halfL_len)) rfl rfl rfl ?_
                intro w2011 hS2011; clear hS88
                refine WS.done ⟨fun h => absurd h (by decide), ?_⟩
                refine WA.one (fuel := 0) 13 rfl (by kernel_rfl) rfl ?_
                refine S.assignT rfl ?_
                refine WS.done ⟨fun h => absurd h (by decide), ?_⟩
                refine WA.done (by kernel_rfl) ?_
                clear hC
                refine WR.seq ?_
                refine WR.regionW (fun j => false) 18 rfl mixed hS2011 ?_
                intro w6012 hS6012; clear hS2011; have hC := hS6012
                refine WA.take (fuel := 17) 0 rfl (by kernel_rfl) (by kernel_rfl) (by kernel_rfl) (by kernel_rfl) rfl rfl hC ?_
                refine Q.loadArr (i := 1) rfl Try.underlying26 ti26 (by first | assumption | exact rfl | exact tab_len | exact ofL_len | exact mrg_len | exact mixL_len | exact halfL_len | (rw [List.length_set]; first | assumption | exact ofL_len | exact mixL_len | exact halfL_len)) rfl rfl ?_
                refine WQ.done ?_
                refine WA.take (fuel := 16) 1 rfl (by kernel_rfl) (by kernel_rfl) (by kernel_rfl) (by kernel_rfl) rfl rfl hC ?_
                refine Q.loadArr (i := 0) rfl Try.underlying25 ti25 (by first | assumption | exact rfl | exact tab_len | exact ofL_len | exact mrg_len | exact mixL_len | exact halfL_len | (rw [List.length_set]; first | assumption | exact ofL_len | exact mixL_len | exact halfL_len)) rfl rfl ?_
                refine WQ.done ?_
                refine WA.take (fuel := 15) 2 rfl (by kernel_rfl) (by kernel_rfl) (by kernel_rfl) (by kernel_rfl) rfl rfl hC ?_
                refine Q.eqlS rfl rfl (by kernel_rfl) (Eq1.arrT Try.underlying26 ti2 Try.underlying2 (by first | assumption | exact rfl | exact tab_len | exact ofL_len | exact mrg_len | exact mixL_len | exact halfL_len | (rw [List.length_set]; first | assumption | exact ofL_len | exact mixL_len | exact halfL_len)) (by first | assumption | exact rfl | exact tab_len | exact ofL_len | exact mrg_len | exact mixL_len | exact halfL_len | (rw [List.length_set]; first | assumption | exact ofL_len | exact mixL_len | exact halfL_len))) rfl ?_
                refine Q.isTD (d := 93) rfl (by rfl) ?_
                refine WQ.done ?_
                refine WA.take (fuel := 14) 3 rfl (by kernel_rfl) (by kernel_rfl) (by kernel_rfl) (by kernel_rfl) rfl rfl hC ?_
                refine Q.moveT rfl ?_
                refine WQ.done ?_
                refine WA.take (fuel := 13) 4 rfl (by kernel_rfl) (by kernel_rfl) (by kernel_rfl) (by kernel_rfl) rfl rfl hC ?_
                refine Q.moveT rfl ?_
                refine WQ.done ?_
                refine WA.take (fuel := 12) 5 rfl (by kernel_rfl) (by kernel_rfl) (by kernel_rfl) (by kernel_rfl) rfl rfl hC ?_
                refine Q.moveT rfl ?_
                refine WQ.done ?_
                refine WA.take (fuel := 11) 6 rfl (by kernel_rfl) (by kernel_rfl) (by kernel_rfl) (by kernel_rfl) rfl rfl hC ?_
                refine Q.eql rfl rfl rfl ?_
                refine Q.isTD (d := 97) rfl (by rfl) ?_
                refine WQ.done ?_
                refine WA.take (fuel := 10) 7 rfl (by kernel_rfl) (by kernel_rfl) (by kernel_rfl) (by kernel_rfl) rfl rfl hC ?_
                refine Q.pickT rfl rfl ?_
                refine WQ.done ?_
                refine WA.take (fuel := 9) 8 rfl (by kernel_rfl) (by kernel_rfl) (by kernel_rfl) (by kernel_rfl) rfl rfl hC ?_
                refine Q.moveT rfl ?_
                refine WQ.done ?_
                refine WA.take (fuel := 8) 9 rfl (by kernel_rfl) (by kernel_rfl) (by kernel_rfl) (by kernel_rfl) rfl rfl hC ?_
                refine Q.moveT rfl ?_
                refine WQ.done ?_
                refine WA.take (fuel := 7) 10 rfl (by kernel_rfl) (by kernel_rfl) (by kernel_rfl) (by kernel_rfl) rfl rfl hC ?_
                refine Q.indexRo hro46 Try.underlying29 ti26 rfl rfl (by omega) rfl ?_
                intro ad101 u101 hu101 hl101 hc101
                obtain rfl : u101 = u82 := Option.some.inj (hu101.symm.trans hu82)
                refine WQ.done ?_
                refine WA.take (fuel := 6) 11 rfl (by kernel_rfl) (by kernel_rfl) (by kernel_rfl) (by kernel_rfl) rfl rfl hC ?_
                refine Q.loadEltA hc101 hl101 Try.underlying26 ti26 rfl rfl ?_
                refine WQ.done ?_
                refine WA.take (fuel := 5) 12 rfl (by kernel_rfl) (by kernel_rfl) (by kernel_rfl) (by kernel_rfl) rfl rfl hC ?_
                refine Q.moveT rfl ?_
                refine WQ.done ?_
                refine WA.take (fuel := 4) 13 rfl (by kernel_rfl) (by kernel_rfl) (by kernel_rfl) (by kernel_rfl) rfl rfl hC ?_
                refine Q.indexRo h1 Try.underlying23 ti25 rfl rfl (by omega) rfl ?_
                intro ad104 u104 hu104 hl104 hc104
                obtain rfl : u104 = u101 := Option.some.inj (hu104.symm.trans hu101)
                refine WQ.done ?_
                refine WA.take (fuel := 3) 14 rfl (by kernel_rfl) (by kernel_rfl) (by kernel_rfl) (by kernel_rfl) rfl rfl hC ?_
                refine Q.loadEltA hc104 hl104 Try.underlying25 ti25 rfl rfl ?_
                refine WQ.done ?_
                refine WA.take (fuel := 2) 15 rfl (by kernel_rfl) (by kernel_rfl) (by kernel_rfl) (by kernel_rfl) rfl rfl hC ?_
                refine Q.eqlS rfl rfl (by kernel_rfl) (Eq1.arrT Try.underlying26 ti2 Try.underlying2 (by first | assumption | exact rfl | exact tab_len | exact ofL_len | exact mrg_len | exact mixL_len | exact halfL_len | (rw [List.length_set]; first | assumption | exact ofL_len | exact mixL_len | exact halfL_len)) (by first | assumption | exact rfl | exact tab_len | exact ofL_len | exact mrg_len | exact mixL_len | exact halfL_len | (rw [List.length_set]; first | assumption | exact ofL_len | exact mixL_len | exact halfL_len))) rfl ?_
                refine Q.isTD (d := 106) rfl (by rfl) ?_
                refine WQ.done ?_
                refine WA.take (fuel := 1) 16 rfl (by kernel_rfl) (by kernel_rfl) (by kernel_rfl) (by kernel_rfl) rfl rfl hC ?_
                refine Q.pickT rfl rfl ?_
                refine WQ.done ?_
                refine WA.take (fuel := 0) 17 rfl (by kernel_rfl) (by kernel_rfl) (by kernel_rfl) (by kernel_rfl) rfl rfl hC ?_
                refine Q.assignT rfl ?_
                refine WQ.done ?_
                refine WA.done (by kernel_rfl) ?_
                clear hC
                refine WR.ret (ret1 rfl rfl ?_)
                first | exact ⟨rfl, hS6012⟩ | exact ⟨rfl, hS6012.drop.drop.drop.drop.drop.weak (hR29.trans hR46)⟩ | exact ⟨rfl, hS6012.drop.drop.drop.drop.drop.weak (hR29.trans (hR46.trans (hR85.trans hR87)))⟩
            ·
              skip
              refine S.alloc (cs := aI (List.replicate 65 0)) hSf85 ti25 rfl rfl ?_
              intro b16 w16 hS16; clear hSf85
              refine WS.done ⟨fun _ => (hS16.drop.weak hR85), ?_⟩
              replace hC := (hS16.drop.weak hR85)
              refine WA.one (fuel := 7) 5 rfl (by kernel_rfl) rfl ?_
              refine S.call ent13 rfl (h5_of hS16 (by exact hro85) (by simpa using ha) (by simp)) rfl ?_
              rintro _ w86 ⟨rfl, hS86⟩
              clear hS16
              refine WS.done ⟨fun _ => (hS86.drop.weak hR85), ?_⟩
              replace hC := (hS86.drop.weak hR85)
              refine WA.one (fuel := 6) 6 rfl (by kernel_rfl) rfl ?_
              refine S.buildRowP (n := 65) (vs := [aV _, aV _]) hS86 Try.underlying23 ti25 rfl rfl rfl rfl rfl ?_ rfl ?_
              · intro v hv; simp only [List.mem_cons, List.not_mem_nil, or_false] at hv; first | (rcases hv with rfl | rfl; all_goals (exact (encA_len _).trans (by first | assumption | exact rfl | exact tab_len | exact ofL_len | exact mrg_len | exact mixL_len | exact halfL_len | (rw [List.length_set]; first | assumption | exact ofL_len | exact mixL_len | exact halfL_len)))) | (subst hv; exact (encA_len _).trans (by first | assumption | exact rfl | exact tab_len | exact ofL_len | exact mrg_len | exact mixL_len | exact halfL_len | (rw [List.length_set]; first | assumption | exact ofL_len | exact mixL_len | exact halfL_len)))
              intro b87 w87 hS87; clear hS86
              obtain ⟨R87, hR87, hro87, hSf87⟩ := hS87.keepRow (enc := encA) (n := 65) [u82, ofL [a]] rfl (by intro x hx; rw [encA_len]; simp only [List.mem_cons, List.not_mem_nil, or_false] at hx; first | (rcases hx with rfl | rfl; all_goals (first | assumption | exact rfl | exact tab_len | exact ofL_len | exact mrg_len | exact mixL_len | exact halfL_len)) | (subst hx; first | assumption | exact rfl | exact tab_len | exact ofL_len | exact mrg_len | exact mixL_len | exact halfL_len))
              replace h0 := h0.mono hR87
              replace h1 := h1.mono hR87
              replace hro29 := hro29.mono hR87
              replace hro46 := hro46.mono hR87
              replace hro85 := hro85.mono hR87
              refine WS.done ⟨fun _ => ((hSf87.drop.weak hR87).weak hR85), ?_⟩
              replace hC := ((hSf87.drop.weak hR87).weak hR85)
              refine WA.one (fuel := 5) 7 rfl (by kernel_rfl) rfl ?_
              refine S.call ent12 rfl (h5_merge hSf87 (by exact hro87) (by exact rows_two huf74 (ofL_fits (by simp))) (by simp)) rfl ?_
              rintro _ w88 ⟨rfl, hS88⟩
              clear hSf87
              refine WS.done ⟨fun _ => ((hS88.drop.weak hR87).weak hR85), ?_⟩
              replace hC := ((hS88.drop.weak hR87).weak hR85)
              refine WA.take (fuel := 4) 8 rfl (by kernel_rfl) (by kernel_rfl) (by kernel_rfl) (by kernel_rfl) rfl rfl hC ?_
              refine Q.moveT rfl ?_
              refine WQ.done ?_
              refine WA.take (fuel := 3) 9 rfl (by kernel_rfl) (by kernel_rfl) (by kernel_rfl) (by kernel_rfl) rfl rfl hC ?_
              refine Q.extract rfl rfl rfl ?_
              refine WQ.done ?_
              refine WA.takeP (fuel := 2) 10 rfl (by kernel_rfl) (by kernel_rfl) (by kernel_rfl) rfl rfl ?_
              refine Q.extract rfl rfl rfl ?_
              refine WQ.done ?_
              refine WA.one (fuel := 1) 12 rfl (by kernel_rfl) rfl ?_
              refine S.storeArr (i := 0) hS88 rfl ti25 (by first | assumption | exact rfl | exact tab_len | exact ofL_len | exact mrg_len | exact mixL_len | exact halfL_len | (rw [List.length_set]; first | assumption | exact ofL_len | exact mixL_len | exact halfL_len)) (by first | assumption | exact rfl | exact tab_len | exact ofL_len | exact mrg_len | exact mixL_len | exact halfL_len | (rw [List.length_set]; first | assumption | exact ofL_len | exact mixL_len | exact halfL_len)) rfl rfl rfl ?_
              intro w2013 hS2013; clear hS88
              refine WS.done ⟨fun h => absurd h (by decide), ?_⟩
              refine WA.one (fuel := 0) 13 rfl (by kernel_rfl) rfl ?_
              refine S.assignT rfl ?_
              refine WS.done ⟨fun h => absurd h (by decide), ?_⟩
              refine WA.done (by kernel_rfl) ?_
              clear hC
              refine WR.seq ?_
              refine WR.regionW (fun j => false) 18 rfl mixed hS2013 ?_
              intro w6014 hS6014; clear hS2013; have hC := hS6014
              refine WA.take (fuel := 17) 0 rfl (by kernel_rfl) (by kernel_rfl) (by kernel_rfl) (by kernel_rfl) rfl rfl hC ?_
              refine Q.loadArr (i := 1) rfl Try.underlying26 ti26 (by first | assumption | exact rfl | exact tab_len | exact ofL_len | exact mrg_len | exact mixL_len | exact halfL_len | (rw [List.length_set]; first | assumption | exact ofL_len | exact mixL_len | exact halfL_len)) rfl rfl ?_
              refine WQ.done ?_
              refine WA.take (fuel := 16) 1 rfl (by kernel_rfl) (by kernel_rfl) (by kernel_rfl) (by kernel_rfl) rfl rfl hC ?_
              refine Q.loadArr (i := 0) rfl Try.underlying25 ti25 (by first | assumption | exact rfl | exact tab_len | exact ofL_len | exact mrg_len | exact mixL_len | exact halfL_len | (rw [List.length_set]; first | assumption | exact ofL_len | exact mixL_len | exact halfL_len)) rfl rfl ?_
              refine WQ.done ?_
              refine WA.take (fuel := 15) 2 rfl (by kernel_rfl) (by kernel_rfl) (by kernel_rfl) (by kernel_rfl) rfl rfl hC ?_
              refine Q.eqlS rfl rfl (by kernel_rfl) (Eq1.arrT Try.underlying26 ti2 Try.underlying2 (by first | assumption | exact rfl | exact tab_len | exact ofL_len | exact mrg_len | exact mixL_len | exact halfL_len | (rw [List.length_set]; first | assumption | exact ofL_len | exact mixL_len | exact halfL_len)) (by first | assumption | exact rfl | exact tab_len | exact ofL_len | exact mrg_len | exact mixL_len | exact halfL_len | (rw [List.length_set]; first | assumption | exact ofL_len | exact mixL_len | exact halfL_len))) rfl ?_
              refine Q.isTD (d := 93) rfl (by rfl) ?_
              refine WQ.done ?_
              refine WA.take (fuel := 14) 3 rfl (by kernel_rfl) (by kernel_rfl) (by kernel_rfl) (by kernel_rfl) rfl rfl hC ?_
              refine Q.moveT rfl ?_
              refine WQ.done ?_
              refine WA.take (fuel := 13) 4 rfl (by kernel_rfl) (by kernel_rfl) (by kernel_rfl) (by kernel_rfl) rfl rfl hC ?_
              refine Q.moveT rfl ?_
              refine WQ.done ?_
              refine WA.take (fuel := 12) 5 rfl (by kernel_rfl) (by kernel_rfl) (by kernel_rfl) (by kernel_rfl) rfl rfl hC ?_
              refine Q.moveT rfl ?_
              refine WQ.done ?_
              refine WA.take (fuel := 11) 6 rfl (by kernel_rfl) (by kernel_rfl) (by kernel_rfl) (by kernel_rfl) rfl rfl hC ?_
              refine Q.eql rfl rfl rfl ?_
              refine Q.isTD (d := 97) rfl (by rfl) ?_
              refine WQ.done ?_
              refine WA.take (fuel := 10) 7 rfl (by kernel_rfl) (by kernel_rfl) (by kernel_rfl) (by kernel_rfl) rfl rfl hC ?_
              refine Q.pickT rfl rfl ?_
              refine WQ.done ?_
              refine WA.take (fuel := 9) 8 rfl (by kernel_rfl) (by kernel_rfl) (by kernel_rfl) (by kernel_rfl) rfl rfl hC ?_
              refine Q.moveT rfl ?_
              refine WQ.done ?_
              refine WA.take (fuel := 8) 9 rfl (by kernel_rfl) (by kernel_rfl) (by kernel_rfl) (by kernel_rfl) rfl rfl hC ?_
              refine Q.moveT rfl ?_
              refine WQ.done ?_
              refine WA.take (fuel := 7) 10 rfl (by kernel_rfl) (by kernel_rfl) (by kernel_rfl) (by kernel_rfl) rfl rfl hC ?_
              refine Q.indexRo hro46 Try.underlying29 ti26 rfl rfl (by omega) rfl ?_
              intro ad101 u101 hu101 hl101 hc101
              obtain rfl : u101 = u82 := Option.some.inj (hu101.symm.trans hu82)
              refine WQ.done ?_
              refine WA.take (fuel := 6) 11 rfl (by kernel_rfl) (by kernel_rfl) (by kernel_rfl) (by kernel_rfl) rfl rfl hC ?_
              refine Q.loadEltA hc101 hl101 Try.underlying26 ti26 rfl rfl ?_
              refine WQ.done ?_
              refine WA.take (fuel := 5) 12 rfl (by kernel_rfl) (by kernel_rfl) (by kernel_rfl) (by kernel_rfl) rfl rfl hC ?_
              refine Q.moveT rfl ?_
              refine WQ.done ?_
              refine WA.take (fuel := 4) 13 rfl (by kernel_rfl) (by kernel_rfl) (by kernel_rfl) (by kernel_rfl) rfl rfl hC ?_
              refine Q.indexRo h1 Try.underlying23 ti25 rfl rfl (by omega) rfl ?_
              intro ad104 u104 hu104 hl104 hc104
              obtain rfl : u104 = u101 := Option.some.inj (hu104.symm.trans hu101)
              refine WQ.done ?_
              refine WA.take (fuel := 3) 14 rfl (by kernel_rfl) (by kernel_rfl) (by kernel_rfl) (by kernel_rfl) rfl rfl hC ?_
              refine Q.loadEltA hc104 hl104 Try.underlying25 ti25 rfl rfl ?_
              refine WQ.done ?_
              refine WA.take (fuel := 2) 15 rfl (by kernel_rfl) (by kernel_rfl) (by kernel_rfl) (by kernel_rfl) rfl rfl hC ?_
              refine Q.eqlS rfl rfl (by kernel_rfl) (Eq1.arrT Try.underlying26 ti2 Try.underlying2 (by first | assumption | exact rfl | exact tab_len | exact ofL_len | exact mrg_len | exact mixL_len | exact halfL_len | (rw [List.length_set]; first | assumption | exact ofL_len | exact mixL_len | exact halfL_len)) (by first | assumption | exact rfl | exact tab_len | exact ofL_len | exact mrg_len | exact mixL_len | exact halfL_len | (rw [List.length_set]; first | assumption | exact ofL_len | exact mixL_len | exact halfL_len))) rfl ?_
              refine Q.isTD (d := 106) rfl (by rfl) ?_
              refine WQ.done ?_
              refine WA.take (fuel := 1) 16 rfl (by kernel_rfl) (by kernel_rfl) (by kernel_rfl) (by kernel_rfl) rfl rfl hC ?_
              refine Q.pickT rfl rfl ?_
              refine WQ.done ?_
              refine WA.take (fuel := 0) 17 rfl (by kernel_rfl) (by kernel_rfl) (by kernel_rfl) (by kernel_rfl) rfl rfl hC ?_
              refine Q.assignT rfl ?_
              refine WQ.done ?_
              refine WA.done (by kernel_rfl) ?_
              clear hC
              refine WR.ret (ret1 rfl rfl ?_)
              first | exact ⟨rfl, hS6014⟩ | exact ⟨rfl, hS6014.drop.drop.drop.drop.drop.weak (hR29.trans hR46)⟩ | exact ⟨rfl, hS6014.drop.drop.drop.drop.drop.weak (hR29.trans (hR46.trans (hR85.trans hR87)))⟩
          ·
            skip
            refine S.alloc (cs := aI (List.replicate 65 0)) hS6006 ti25 rfl rfl ?_
            intro b16 w16 hS16; clear hS6006
            refine WS.done ⟨fun _ => hS16.drop, ?_⟩
            replace hC := hS16.drop
            refine WA.one (fuel := 8) 4 rfl (by kernel_rfl) rfl ?_
            first
              | refine S.buildRow (vs := [.int _ _]) hS16 Try.underlying22 ti2 rfl rfl rfl rfl rfl rfl rfl ?_
              | refine S.buildRow hS16 Try.underlying22 ti2 rfl rfl rfl rfl rfl rfl rfl ?_
            intro b85 w85 hS85; clear hS16
            obtain ⟨R85, hR85, hro85, hSf85⟩ := hS85.keepRow (enc := encI .i64) (n := 1) [a] rfl (fun _ _ => rfl)
            replace h0 := h0.mono hR85
            replace h1 := h1.mono hR85
            replace hro29 := hro29.mono hR85
            replace hro46 := hro46.mono hR85
            refine WS.done ⟨fun _ => (hSf85.drop.weak hR85), ?_⟩
            replace hC := (hSf85.drop.weak hR85)
            refine WA.one (fuel := 7) 5 rfl (by kernel_rfl) rfl ?_
            refine S.call ent13 rfl (h5_of hSf85 (by exact hro85) (by simpa using ha) (by simp)) rfl ?_
            rintro _ w86 ⟨rfl, hS86⟩
            clear hSf85
            refine WS.done ⟨fun _ => (hS86.drop.weak hR85), ?_⟩
            replace hC := (hS86.drop.weak hR85)
            refine WA.one (fuel := 6) 6 rfl (by kernel_rfl) rfl ?_
            refine S.buildRowP (n := 65) (vs := [aV _, aV _]) hS86 Try.underlying23 ti25 rfl rfl rfl rfl rfl ?_ rfl ?_
            · intro v hv; simp only [List.mem_cons, List.not_mem_nil, or_false] at hv; first | (rcases hv with rfl | rfl; all_goals (exact (encA_len _).trans (by first | assumption | exact rfl | exact tab_len | exact ofL_len | exact mrg_len | exact mixL_len | exact halfL_len | (rw [List.length_set]; first | assumption | exact ofL_len | exact mixL_len | exact halfL_len)))) | (subst hv; exact (encA_len _).trans (by first | assumption | exact rfl | exact tab_len | exact ofL_len | exact mrg_len | exact mixL_len | exact halfL_len | (rw [List.length_set]; first | assumption | exact ofL_len | exact mixL_len | exact halfL_len)))
            intro b87 w87 hS87; clear hS86
            obtain ⟨R87, hR87, hro87, hSf87⟩ := hS87.keepRow (enc := encA) (n := 65) [u82, ofL [a]] rfl (by intro x hx; rw [encA_len]; simp only [List.mem_cons, List.not_mem_nil, or_false] at hx; first | (rcases hx with rfl | rfl; all_goals (first | assumption | exact rfl | exact tab_len | exact ofL_len | exact mrg_len | exact mixL_len | exact halfL_len)) | (subst hx; first | assumption | exact rfl | exact tab_len | exact ofL_len | exact mrg_len | exact mixL_len | exact halfL_len))
            replace h0 := h0.mono hR87
            replace h1 := h1.mono hR87
            replace hro29 := hro29.mono hR87
            replace hro46 := hro46.mono hR87
            replace hro85 := hro85.mono hR87
            refine WS.done ⟨fun _ => ((hSf87.drop.weak hR87).weak hR85), ?_⟩
            replace hC := ((hSf87.drop.weak hR87).weak hR85)
            refine WA.one (fuel := 5) 7 rfl (by kernel_rfl) rfl ?_
            refine S.call ent12 rfl (h5_merge hSf87 (by exact hro87) (by exact rows_two huf74 (ofL_fits (by simp))) (by simp)) rfl ?_
            rintro _ w88 ⟨rfl, hS88⟩
            clear hSf87
            refine WS.done ⟨fun _ => ((hS88.drop.weak hR87).weak hR85), ?_⟩
            replace hC := ((hS88.drop.weak hR87).weak hR85)
            refine WA.take (fuel := 4) 8 rfl (by kernel_rfl) (by kernel_rfl) (by kernel_rfl) (by kernel_rfl) rfl rfl hC ?_
            refine Q.moveT rfl ?_
            refine WQ.done ?_
            refine WA.take (fuel := 3) 9 rfl (by kernel_rfl) (by kernel_rfl) (by kernel_rfl) (by kernel_rfl) rfl rfl hC ?_
            refine Q.extract rfl rfl rfl ?_
            refine WQ.done ?_
            refine WA.takeP (fuel := 2) 10 rfl (by kernel_rfl) (by kernel_rfl) (by kernel_rfl) rfl rfl ?_
            refine Q.extract rfl rfl rfl ?_
            refine WQ.done ?_
            refine WA.one (fuel := 1) 12 rfl (by kernel_rfl) rfl ?_
            refine S.storeArr (i := 0) hS88 rfl ti25 (by first | assumption | exact rfl | exact tab_len | exact ofL_len | exact mrg_len | exact mixL_len | exact halfL_len | (rw [List.length_set]; first | assumption | exact ofL_len | exact mixL_len | exact halfL_len)) (by first | assumption | exact rfl | exact tab_len | exact ofL_len | exact mrg_len | exact mixL_len | exact halfL_len | (rw [List.length_set]; first | assumption | exact ofL_len | exact mixL_len | exact halfL_len)) rfl rfl rfl ?_
            intro w2015 hS2015; clear hS88
            refine WS.done ⟨fun h => absurd h (by decide), ?_⟩
            refine WA.one (fuel := 0) 13 rfl (by kernel_rfl) rfl ?_
            refine S.assignT rfl ?_
            refine WS.done ⟨fun h => absurd h (by decide), ?_⟩
            refine WA.done (by kernel_rfl) ?_
            clear hC
            refine WR.seq ?_
            refine WR.regionW (fun j => false) 18 rfl mixed hS2015 ?_
            intro w6016 hS6016; clear hS2015; have hC := hS6016
            refine WA.take (fuel := 17) 0 rfl (by kernel_rfl) (by kernel_rfl) (by kernel_rfl) (by kernel_rfl) rfl rfl hC ?_
            refine Q.loadArr (i := 1) rfl Try.underlying26 ti26 (by first | assumption | exact rfl | exact tab_len | exact ofL_len | exact mrg_len | exact mixL_len | exact halfL_len | (rw [List.length_set]; first | assumption | exact ofL_len | exact mixL_len | exact halfL_len)) rfl rfl ?_
            refine WQ.done ?_
            refine WA.take (fuel := 16) 1 rfl (by kernel_rfl) (by kernel_rfl) (by kernel_rfl) (by kernel_rfl) rfl rfl hC ?_
            refine Q.loadArr (i := 0) rfl Try.underlying25 ti25 (by first | assumption | exact rfl | exact tab_len | exact ofL_len | exact mrg_len | exact mixL_len | exact halfL_len | (rw [List.length_set]; first | assumption | exact ofL_len | exact mixL_len | exact halfL_len)) rfl rfl ?_
            refine WQ.done ?_
            refine WA.take (fuel := 15) 2 rfl (by kernel_rfl) (by kernel_rfl) (by kernel_rfl) (by kernel_rfl) rfl rfl hC ?_
            refine Q.eqlS rfl rfl (by kernel_rfl) (Eq1.arrT Try.underlying26 ti2 Try.underlying2 (by first | assumption | exact rfl | exact tab_len | exact ofL_len | exact mrg_len | exact mixL_len | exact halfL_len | (rw [List.length_set]; first | assumption | exact ofL_len | exact mixL_len | exact halfL_len)) (by first | assumption | exact rfl | exact tab_len | exact ofL_len | exact mrg_len | exact mixL_len | exact halfL_len | (rw [List.length_set]; first | assumption | exact ofL_len | exact mixL_len | exact halfL_len))) rfl ?_
            refine Q.isTD (d := 93) rfl (by rfl) ?_
            refine WQ.done ?_
            refine WA.take (fuel := 14) 3 rfl (by kernel_rfl) (by kernel_rfl) (by kernel_rfl) (by kernel_rfl) rfl rfl hC ?_
            refine Q.moveT rfl ?_
            refine WQ.done ?_
            refine WA.take (fuel := 13) 4 rfl (by kernel_rfl) (by kernel_rfl) (by kernel_rfl) (by kernel_rfl) rfl rfl hC ?_
            refine Q.moveT rfl ?_
            refine WQ.done ?_
            refine WA.take (fuel := 12) 5 rfl (by kernel_rfl) (by kernel_rfl) (by kernel_rfl) (by kernel_rfl) rfl rfl hC ?_
            refine Q.moveT rfl ?_
            refine WQ.done ?_
            refine WA.take (fuel := 11) 6 rfl (by kernel_rfl) (by kernel_rfl) (by kernel_rfl) (by kernel_rfl) rfl rfl hC ?_
            refine Q.eql rfl rfl rfl ?_
            refine Q.isTD (d := 97) rfl (by rfl) ?_
            refine WQ.done ?_
            refine WA.take (fuel := 10) 7 rfl (by kernel_rfl) (by kernel_rfl) (by kernel_rfl) (by kernel_rfl) rfl rfl hC ?_
            refine Q.pickT rfl rfl ?_
            refine WQ.done ?_
            refine WA.take (fuel := 9) 8 rfl (by kernel_rfl) (by kernel_rfl) (by kernel_rfl) (by kernel_rfl) rfl rfl hC ?_
            refine Q.moveT rfl ?_
            refine WQ.done ?_
            refine WA.take (fuel := 8) 9 rfl (by kernel_rfl) (by kernel_rfl) (by kernel_rfl) (by kernel_rfl) rfl rfl hC ?_
            refine Q.moveT rfl ?_
            refine WQ.done ?_
            refine WA.take (fuel := 7) 10 rfl (by kernel_rfl) (by kernel_rfl) (by kernel_rfl) (by kernel_rfl) rfl rfl hC ?_
            refine Q.indexRo hro46 Try.underlying29 ti26 rfl rfl (by omega) rfl ?_
            intro ad101 u101 hu101 hl101 hc101
            obtain rfl : u101 = u82 := Option.some.inj (hu101.symm.trans hu82)
            refine WQ.done ?_
            refine WA.take (fuel := 6) 11 rfl (by kernel_rfl) (by kernel_rfl) (by kernel_rfl) (by kernel_rfl) rfl rfl hC ?_
            refine Q.loadEltA hc101 hl101 Try.underlying26 ti26 rfl rfl ?_
            refine WQ.done ?_
            refine WA.take (fuel := 5) 12 rfl (by kernel_rfl) (by kernel_rfl) (by kernel_rfl) (by kernel_rfl) rfl rfl hC ?_
            refine Q.moveT rfl ?_
            refine WQ.done ?_
            refine WA.take (fuel := 4) 13 rfl (by kernel_rfl) (by kernel_rfl) (by kernel_rfl) (by kernel_rfl) rfl rfl hC ?_
            refine Q.indexRo h1 Try.underlying23 ti25 rfl rfl (by omega) rfl ?_
            intro ad104 u104 hu104 hl104 hc104
            obtain rfl : u104 = u101 := Option.some.inj (hu104.symm.trans hu101)
            refine WQ.done ?_
            refine WA.take (fuel := 3) 14 rfl (by kernel_rfl) (by kernel_rfl) (by kernel_rfl) (by kernel_rfl) rfl rfl hC ?_
            refine Q.loadEltA hc104 hl104 Try.underlying25 ti25 rfl rfl ?_
            refine WQ.done ?_
            refine WA.take (fuel := 2) 15 rfl (by kernel_rfl) (by kernel_rfl) (by kernel_rfl) (by kernel_rfl) rfl rfl hC ?_
            refine Q.eqlS rfl rfl (by kernel_rfl) (Eq1.arrT Try.underlying26 ti2 Try.underlying2 (by first | assumption | exact rfl | exact tab_len | exact ofL_len | exact mrg_len | exact mixL_len | exact halfL_len | (rw [List.length_set]; first | assumption | exact ofL_len | exact mixL_len | exact halfL_len)) (by first | assumption | exact rfl | exact tab_len | exact ofL_len | exact mrg_len | exact mixL_len | exact halfL_len | (rw [List.length_set]; first | assumption | exact ofL_len | exact mixL_len | exact halfL_len))) rfl ?_
            refine Q.isTD (d := 106) rfl (by rfl) ?_
            refine WQ.done ?_
            refine WA.take (fuel := 1) 16 rfl (by kernel_rfl) (by kernel_rfl) (by kernel_rfl) (by kernel_rfl) rfl rfl hC ?_
            refine Q.pickT rfl rfl ?_
            refine WQ.done ?_
            refine WA.take (fuel := 0) 17 rfl (by kernel_rfl) (by kernel_rfl) (by kernel_rfl) (by kernel_rfl) rfl rfl hC ?_
            refine Q.assignT rfl ?_
            refine WQ.done ?_
            refine WA.done (by kernel_rfl) ?_
            clear hC
            refine WR.ret (ret1 rfl rfl ?_)
            first | exact ⟨rfl, hS6016⟩ | exact ⟨rfl, hS6016.drop.drop.drop.drop.drop.weak (hR29.trans hR46)⟩ | exact ⟨rfl, hS6016.drop.drop.drop.drop.drop.weak (hR29.trans (hR46.trans (hR85.trans hR87)))⟩


end Go.Proofs.Ytmmdbincgianaaa.B

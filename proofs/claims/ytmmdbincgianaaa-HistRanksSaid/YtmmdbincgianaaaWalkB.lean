import Derived.Test.YtmmdbincgianaaaWalkA
namespace Go.Proofs.Ytmmdbincgianaaa.B
open Go.Proofs Go.RowKit
set_option linter.unusedVariables false
set_option linter.unusedSimpArgs false
theorem pow_range {n : Nat} (h : n ≤ 62) : 1 ≤ (2 : Int) ^ n ∧ (2 : Int) ^ n ≤ 4611686018427387904 := by
  have h1 : (2 : Nat) ^ n ≤ 2 ^ 62 := Nat.pow_le_pow_right (by decide) h
  have h2 := Nat.two_pow_pos n
  have hp : ((2 : Nat) ^ n : Nat) = ((2 : Int) ^ n) := by norm_cast
  rw [← hp]
  have : (2 : Nat) ^ 62 = 4611686018427387904 := by decide
  omega
theorem shl_one {n : Nat} {k q : Int} (h : n ≤ 62) (hk : k = n) (hq : q = 2 ^ n) : IntKind.i64.wrap (1 * 2 ^ (min k.toNat IntKind.i64.bits)) = q := by
  have h1 := pow_range h
  rw [show min k.toNat IntKind.i64.bits = n by rw [hk]; show min n 64 = n; omega, Int.one_mul, ← hq]
  rw [← hq] at h1
  exact wrap_i64 (by omega) (by omega)
theorem rows_len {R : Kn} {v0 : Value} {rows : List (List Int)} (h0 : Ro R encA 65 v0 rows) : ∀ h ∈ rows, h.length = 65 := fun h hh => by
  have := h0.enc_len h hh
  rwa [encA_len] at this
theorem colF {rows : List (List Int)} {i k : Nat} (hf : ∀ h ∈ rows, ∀ x ∈ h, fits x) (hl : ∀ h ∈ rows, h.length = 65) (hk : k < 65) : ∀ x ∈ (rows.take i).map (fun h => h.getD k 0), fits x := by
  intro x hx
  obtain ⟨h, hh, rfl⟩ := List.mem_map.1 hx
  have hm := List.mem_of_mem_take hh
  exact hf h hm _ (getD_mem (by rw [hl h hm]; exact hk))
theorem rows_two {a b : List Int} (ha : ∀ x ∈ a, fits x) (hb : ∀ x ∈ b, fits x) : ∀ h ∈ [a, b], ∀ x ∈ h, fits x := by
  intro h hh
  simp only [List.mem_cons, List.not_mem_nil, or_false] at hh
  rcases hh with rfl | rfl
  · exact ha
  · exact hb
theorem roAll {R : Kn} {b len k k' : Nat} {xs : List Int} (hro : Ro R (encI .i64) 1 (.slice (some ⟨b, 0, none⟩) len k) xs) (hl : xs.length = k') : Ro R (encI .i64) 1 (.slice (some ⟨b, 0, none⟩) k' k') xs := by
  have := hro.arrTake xs.length (Nat.le_refl _) (Nat.le_of_eq hl)
  rw [List.take_length, hl] at this
  exact this
theorem psum_abs {xs : List Int} (hf : ∀ x ∈ xs, fits x) (hl : xs.length = 65) (j : Nat) : -599519182395560427520 ≤ psum xs j ∧ psum xs j ≤ 599519182395560427520 := by
  have := sum_abs (xs := xs.take j) (fun x hx => hf x (List.mem_of_mem_take hx))
  rw [List.length_take] at this
  have e : psum xs j = (xs.take j).sum := rfl
  have h65 : (min j xs.length : Nat) ≤ 65 := by omega
  generalize (xs.take j).sum = q at *
  generalize min j xs.length = m at *
  omega
theorem psum_wide {xs : List Int} (hf : ∀ x ∈ xs, fits x) (hl : xs.length = 65) (j : Nat) : wh (psum xs j) * 18446744073709551616 + wl (psum xs j) = psum xs j := by
  have := psum_abs hf hl j
  exact w_back (by omega)
theorem cmp_lt {x y : Int} : (if x < y then (-1 : Int) else if x = y then 0 else 1) < 0 ↔ x < y := by
  split
  · exact ⟨fun _ => by assumption, fun _ => by decide⟩
  · split <;> exact ⟨fun h => absurd h (by decide), fun h => absurd h (by assumption)⟩
theorem allT {α : Type} {p : α → Prop} {xs : List α} {i : Nat} {u : α} (h : ∀ x ∈ xs.take i, p x) (hu : xs[i]? = some u) (hc : p u) : ∀ x ∈ xs.take (i + 1), p x := by
  intro x hx
  rw [List.take_add_one, hu] at hx
  rcases List.mem_append.1 hx with hx | hx
  · exact h x hx
  · simp at hx; subst hx; exact hc
set_option maxRecDepth 100000 in
set_option maxHeartbeats 4000000 in
theorem h_bucket {w : World} {R : Kn} {L : List HP}  (hS : St w R (L)) {a : Int} (ha : fits a) :
    Fn Try.prog 23 #[.int .i64 a] w (fun v w' => v = .int .i64 (bkt a) ∧ St w' R L) := by
  have hfa := id ha
  unfold fits at hfa
  refine Fn.intro (n := 9) Try.func23 rfl rfl rfl ?_
  refine WR.seq ?_
  refine WR.region rfl ?_
  refine S.assignC rfl ?_
  refine WS.done ?_
  refine WR.seq ?_
  refine WR.seq ?_
  refine WR.region rfl ?_
  refine S.moveT rfl ?_
  refine S.lss rfl rfl rfl ?_
  refine WS.done ?_
  refine WR.condD rfl (fun c4 => ?_) (fun c4 => ?_)
  ·
    skip
    refine WR.seq ?_
    refine WR.region rfl ?_
    refine S.assignC rfl ?_
    refine WS.done ?_
    refine WR.ret (ret1 rfl rfl ?_)
    exact ⟨congrArg (Value.int .i64) (by rw [bkt_neg c4]; rfl), hS⟩
  ·
    skip
    refine WR.skip ?_
    refine WR.seq ?_
    refine WR.region rfl ?_
    refine S.moveT rfl ?_
    first
      | refine S.convN Try.underlying2 Try.underlying38 rfl rfl (wrap_u64 (by omega) (by omega)) ?_
      | refine S.conv Try.underlying2 Try.underlying38 rfl rfl ?_
    refine S.call ent46 rfl (s_len64 hS (by omega)) rfl ?_
    rintro _ w7 ⟨rfl, hS7⟩
    clear hS
    have hb := bitLen_64 (a := a) (by omega)
    first
      | refine S.addN rfl rfl rfl (by omega) ?_
      | refine S.add rfl rfl rfl ?_
    refine S.assignT rfl ?_
    refine WS.done ?_
    refine WR.ret (ret1 rfl rfl ?_)
    exact ⟨congrArg (Value.int .i64) (by rw [bkt_pos c4]; omega), hS7⟩

set_option maxRecDepth 100000 in
set_option maxHeartbeats 4000000 in
theorem h5_bucket {w : World} {R : Kn} {L : List HP}  (hS : St w R (L)) {a : Int} (ha : fits a) :
    Fn Try.prog 24 #[.int .i64 a] w (fun v w' => v = .int .i64 (bkt a) ∧ St w' R L) := by
  have hfa := id ha
  unfold fits at hfa
  have hbl := bkt_lt ha
  refine Fn.intro (n := 13) Try.func24 rfl rfl rfl ?_
  refine WR.seq ?_
  refine WR.region rfl ?_
  refine S.assignC rfl ?_
  refine WS.done ?_
  refine WR.seq ?_
  refine WR.seq ?_
  refine WR.region rfl ?_
  refine S.moveT rfl ?_
  refine S.lss rfl rfl rfl ?_
  refine WS.done ?_
  refine WR.condD rfl (fun c5 => ?_) (fun c5 => ?_)
  ·
    skip
    refine WR.seq ?_
    refine WR.region rfl ?_
    refine S.assignC rfl ?_
    refine WS.done ?_
    refine WR.ret (ret1 rfl rfl ?_)
    exact ⟨congrArg (Value.int .i64) (by rw [bkt_neg c5]; rfl), hS⟩
  ·
    skip
    refine WR.skip ?_
    refine WR.seq ?_
    refine WR.region rfl ?_
    refine S.assignC rfl ?_
    refine WS.done ?_
    refine WR.seq ?_
    refine WR.block ?_
    refine WR.loopE (fun rq mm rr wr => ∃ (x n : Int), mm = x.toNat ∧ (0 ≤ x ∧ x ≤ a ∧ n + bitLen x.toNat = bkt a ∧ 1 ≤ n) ∧ rr 0 = .int .i64 x ∧ rr 3 = .int .i64 n ∧ Agr [] rr rq ∧ St wr R L) ⟨a, 1, rfl, (by exact ⟨by omega, Int.le_refl _, by rw [bkt_pos c5]; omega, by decide⟩), rfl, rfl, trivial, hS⟩ ?_
    rintro mm rr w1001 ⟨x, n, hm1001, ⟨hx, hxa, hn, hn1⟩, hr1001_0, hr1001_3, hA1001, hS1001⟩
    obtain ⟨rr, rfl⟩ := agrBack hA1001
    clear hA1001
    obtain ⟨rr, rfl⟩ := back2 (r := rr) hr1001_0 hr1001_3
    clear hr1001_0 hr1001_3
    refine WR.seq ?_
    refine WR.seq ?_
    refine WR.region rfl ?_
    refine S.moveT rfl ?_
    refine S.gtr rfl rfl rfl ?_
    refine WS.done ?_
    refine WR.condD rfl (fun c7 => ?_) (fun c7 => ?_)
    ·
      skip
      refine WR.skip ?_
      refine WR.block ?_
      refine WR.seq ?_
      refine WR.region rfl ?_
      refine S.moveT rfl ?_
      first
        | refine S.quoN rfl rfl (by omega) (by omega) rfl ?_
        | refine S.quo rfl rfl (by omega) rfl ?_
      refine S.assignT rfl ?_
      refine WS.done ?_
      refine WR.region rfl ?_
      refine S.moveT rfl ?_
      first
        | refine S.addN rfl rfl rfl (by omega) ?_
        | refine S.add rfl rfl rfl ?_
      refine S.assignT rfl ?_
      refine WS.done ?_
      exact ⟨_, (by omega), ⟨x / 2, n + 1, rfl, (by exact ⟨by omega, by omega, by rw [bitLen_half (by omega), show x.toNat / 2 = (x / 2).toNat by omega] at hn; omega, by omega⟩), rfl, rfl, trivial, hS1001⟩⟩
    ·
      skip
      refine WR.exit ?_
      refine WR.seq ?_
      refine WR.region rfl ?_
      refine S.moveT rfl ?_
      refine S.assignT rfl ?_
      refine WS.done ?_
      refine WR.ret (ret1 rfl rfl ?_)
      obtain rfl : x = 0 := by omega
      have hz : bitLen (0 : Int).toNat = 0 := rfl
      exact ⟨congrArg (Value.int .i64) (by omega), hS1001⟩

set_option maxRecDepth 100000 in
set_option maxHeartbeats 4000000 in
theorem h_bounds {w : World} {R : Kn} {L : List HP}  (hS : St w R (L)) {k : Int} (hk : fits k) :
    Fn Try.prog 25 #[.int .i64 k] w (fun v w' => ∃ p q, v = .tuple #[.agg #[.int .i64 p, .int .i64 q], .bool (decide (0 ≤ k ∧ k ≤ 64))] ∧ ((¬ (0 ≤ k ∧ k ≤ 64) ∧ p = 0 ∧ q = 0) ∨ ((0 ≤ k ∧ k ≤ 64) ∧ p ≤ q ∧ fits p ∧ fits q ∧ ∀ v, fits v → ((bkt v : Int) = k ↔ p ≤ v ∧ v ≤ q))) ∧ St w' R L) := by
  refine Fn.intro (n := 36) Try.func25 rfl rfl rfl ?_
  refine WR.seq ?_
  refine WR.region rfl ?_
  refine S.alloc hS ti60 rfl rfl ?_
  intro b2 w2 hS2; clear hS
  refine S.assignC rfl ?_
  refine WS.done ?_
  refine WR.seq ?_
  refine WR.block ?_
  refine WR.seq ?_
  refine WR.region rfl ?_
  refine S.moveT rfl ?_
  refine S.lss rfl rfl rfl ?_
  refine S.moveT rfl ?_
  refine S.splitD (d := 8) rfl (fun c8 => ?_) (fun c8 => ?_)
  ·
    skip
    refine S.off rfl ?_
    refine S.off rfl ?_
    refine S.pickTC rfl rfl ?_
    refine S.assignT rfl ?_
    refine WS.done ?_
    refine WR.condT rfl ?_
    refine WR.seq ?_
    refine WR.region rfl ?_
    refine S.buildZero ti60 rfl (by kernel_rfl) rfl ?_
    refine S.storeB (i := 0) hS2 rfl ti60 rfl rfl rfl rfl rfl rfl rfl rfl ?_
    intro w2001 hS2001; clear hS2
    refine S.assignC rfl ?_
    refine WS.done ?_
    refine WR.ret (retC1 rfl rfl (run_loadBA (i := 0) hS2001 rfl Try.underlying60 rfl ti60 rfl rfl) rfl ?_)
    exact ⟨0, 0, tup2 rfl (congrArg Value.bool (decide_eq_false (by omega)).symm), .inl ⟨by omega, rfl, rfl⟩, hS2001.drop⟩
  ·
    skip
    refine S.moveT rfl ?_
    refine S.geq rfl rfl rfl ?_
    refine S.pickF rfl rfl ?_
    refine S.assignT rfl ?_
    refine WS.done ?_
    refine WR.condD rfl (fun c5 => ?_) (fun c5 => ?_)
    ·
      skip
      refine WR.seq ?_
      refine WR.region rfl ?_
      refine S.buildZero ti60 rfl (by kernel_rfl) rfl ?_
      refine S.storeB (i := 0) hS2 rfl ti60 rfl rfl rfl rfl rfl rfl rfl rfl ?_
      intro w2002 hS2002; clear hS2
      refine S.assignC rfl ?_
      refine WS.done ?_
      refine WR.ret (retC1 rfl rfl (run_loadBA (i := 0) hS2002 rfl Try.underlying60 rfl ti60 rfl rfl) rfl ?_)
      exact ⟨0, 0, tup2 rfl (congrArg Value.bool (decide_eq_false (by omega)).symm), .inl ⟨by omega, rfl, rfl⟩, hS2002.drop⟩
    ·
      skip
      refine WR.seq ?_
      refine WR.region rfl ?_
      refine S.moveT rfl ?_
      refine S.eql rfl rfl rfl ?_
      refine S.assignT rfl ?_
      refine WS.done ?_
      refine WR.condD rfl (fun c13 => ?_) (fun c13 => ?_)
      ·
        skip
        refine WR.seq ?_
        refine WR.region rfl ?_
        refine S.call ent47 rfl (g_new hS2 ) rfl ?_
        rintro _ w16 ⟨p16, q16, rfl, hG16, hS16⟩
        clear hS2
        refine S.extract rfl rfl rfl ?_
        refine S.extract rfl rfl rfl ?_
        refine S.storeB (i := 0) hS16 rfl ti60 rfl rfl rfl rfl rfl rfl rfl rfl ?_
        intro w2003 hS2003; clear hS16
        refine S.assignT rfl ?_
        refine WS.done ?_
        refine WR.ret (retC1 rfl rfl (run_loadBA (i := 0) hS2003 rfl Try.underlying60 rfl ti60 rfl rfl) rfl ?_)
        obtain rfl : k = 0 := by omega
        exact ⟨_, _, tup2 rfl (congrArg Value.bool (by decide)), .inr ⟨by omega, by omega, by unfold fits; omega, by unfold fits; omega, fun v hv => by have := @bkt_zero v; unfold fits at hv; omega⟩, hS2003.drop⟩
      ·
        skip
        refine WR.seq ?_
        refine WR.region rfl ?_
        refine S.moveT rfl ?_
        refine S.eql rfl rfl rfl ?_
        refine S.assignT rfl ?_
        refine WS.done ?_
        refine WR.condD rfl (fun c19 => ?_) (fun c19 => ?_)
        ·
          skip
          refine WR.seq ?_
          refine WR.region rfl ?_
          refine S.call ent47 rfl (g_new hS2 ) rfl ?_
          rintro _ w22 ⟨p22, q22, rfl, hG22, hS22⟩
          clear hS2
          refine S.extract rfl rfl rfl ?_
          refine S.extract rfl rfl rfl ?_
          refine S.storeB (i := 0) hS22 rfl ti60 rfl rfl rfl rfl rfl rfl rfl rfl ?_
          intro w2004 hS2004; clear hS22
          refine S.assignT rfl ?_
          refine WS.done ?_
          refine WR.ret (retC1 rfl rfl (run_loadBA (i := 0) hS2004 rfl Try.underlying60 rfl ti60 rfl rfl) rfl ?_)
          obtain rfl : k = 1 := by omega
          exact ⟨_, _, tup2 rfl (congrArg Value.bool (by decide)), .inr ⟨by omega, by omega, by unfold fits; omega, by unfold fits; omega, fun v hv => by have := @bkt_one v; omega⟩, hS2004.drop⟩
        ·
          skip
          refine WR.skip ?_
          refine WR.seq ?_
          refine WR.region rfl ?_
          refine S.moveT rfl ?_
          first
            | refine S.subN rfl rfl rfl (by omega) ?_
            | refine S.sub rfl rfl rfl ?_
          obtain ⟨n, rfl⟩ : ∃ n : Nat, k = (n : Int) + 2 := ⟨(k - 2).toNat, by omega⟩
          obtain ⟨q, hq⟩ : ∃ q : Int, q = 2 ^ n := ⟨_, rfl⟩
          have hqp := pow_range (n := n) (by omega)
          rw [← hq] at hqp
          refine S.shl rfl rfl (by omega) rfl ?_
          refine S.as (d := 27) rfl (congrArg (Value.int .i64) (shl_one (n := n) (by omega) (by omega) hq)) ?_
          refine S.assignT rfl ?_
          refine WS.done ?_
          refine WR.seq ?_
          refine WR.region rfl ?_
          refine S.moveT rfl ?_
          refine S.moveT rfl ?_
          first
            | refine S.subN rfl rfl rfl (by omega) ?_
            | refine S.sub rfl rfl rfl ?_
          refine S.moveT rfl ?_
          first
            | refine S.addN rfl rfl rfl (by omega) ?_
            | refine S.add rfl rfl rfl ?_
          refine S.call ent47 rfl (g_new hS2 ) rfl ?_
          rintro _ w33 ⟨p33, q33, rfl, hG33, hS33⟩
          clear hS2
          refine S.extract rfl rfl rfl ?_
          refine S.extract rfl rfl rfl ?_
          refine S.storeB (i := 0) hS33 rfl ti60 rfl rfl rfl rfl rfl rfl rfl rfl ?_
          intro w2005 hS2005; clear hS33
          refine S.assignT rfl ?_
          refine WS.done ?_
          refine WR.ret (retC1 rfl rfl (run_loadBA (i := 0) hS2005 rfl Try.underlying60 rfl ti60 rfl rfl) rfl ?_)
          exact ⟨_, _, tup2 rfl (congrArg Value.bool (decide_eq_decide.2 (by omega))), .inr ⟨by omega, by omega, by unfold fits; omega, by unfold fits; omega, fun v hv => by have := @bkt_iff v n; rw [← hq] at this; omega⟩, hS2005.drop⟩

set_option maxRecDepth 100000 in
set_option maxHeartbeats 4000000 in
theorem h_of {w : World} {R : Kn} {L : List HP}  (hS : St w R (L)) {v0 : Value} {xs : List Int} (h0 : Ro R (encI .i64) 1 v0 xs) (hf : ∀ x ∈ xs, fits x) (hm : xs.length ≤ 1000000) :
    Fn Try.prog 9 #[v0] w (fun v w' => v = aV (ofL xs) ∧ St w' R L) := by
  obtain ⟨a0, c0, rfl, hl0⟩ := h0.len
  refine Fn.intro (n := 20) Try.func9 rfl rfl rfl ?_
  refine WR.seq ?_
  refine WR.region rfl ?_
  refine S.alloc (cs := aI (List.replicate 65 0)) hS ti26 rfl rfl ?_
  intro b2 w2 hS2; clear hS
  refine WS.done ?_
  refine WR.seq ?_
  refine WR.region rfl ?_
  refine S.alloc (cs := aI (List.replicate 65 0)) hS2 ti26 rfl rfl ?_
  intro b3 w3 hS3; clear hS2
  refine WS.done ?_
  refine WR.seq ?_
  refine WR.seq ?_
  refine WR.region rfl ?_
  refine S.moveT rfl ?_
  refine S.lenSl Try.underlying22 rfl rfl ?_
  refine S.moveC rfl ?_
  refine WS.done ?_
  refine WR.block ?_
  refine WR.loopE (fun rq mm rr wr => ∃ (i : Nat), mm = xs.length - i ∧ (i ≤ xs.length) ∧ rr 8 = .int .i64 (i : Int) ∧ Agr [2, 3, 6, 7] rr rq ∧ St wr R (blk b3 (.cells (aI (ofL (xs.take i))) 26 (0, 0)) :: blk b2 (.cells (aI zA) 26 (0, 0)) :: L)) ⟨0, rfl, (by omega), rfl, ⟨rfl, rfl, rfl, rfl, trivial⟩, (by rw [show xs.take 0 = [] from rfl, ofL_nil]; exact hS3)⟩ ?_
  rintro mm rr w1001 ⟨i, hm1001, hi, hr1001_8, hA1001, hS1001⟩
  obtain ⟨rr, rfl⟩ := agrBack hA1001
  clear hA1001
  obtain ⟨rr, rfl⟩ := back1 (r := rr) hr1001_8
  clear hr1001_8
  refine WR.seq ?_
  refine WR.region rfl ?_
  refine S.lss rfl rfl rfl ?_
  refine WS.done ?_
  refine WR.seq ?_
  refine WR.condD rfl (fun c9 => ?_) (fun c9 => ?_)
  ·
    skip
    refine WR.skip ?_
    refine WR.seq ?_
    refine WR.block ?_
    refine WR.seq ?_
    refine WR.region rfl ?_
    refine S.indexRo h0 Try.underlying22 ti2 rfl rfl (by omega) rfl ?_
    intro ad10 u10 hu10 hl10 hc10
    refine S.loadRo hS1001 hc10 rfl Try.underlying2 rfl rfl rfl ?_
    have hfu := hf u10 (List.mem_of_getElem? hu10)
    have hbu := bkt_lt hfu
    refine S.assignT rfl ?_
    refine WS.done ?_
    refine WR.region rfl ?_
    refine S.moveT rfl ?_
    refine S.call ent23 rfl (h_bucket hS1001 (by assumption)) rfl ?_
    rintro _ w13 ⟨rfl, hS13⟩
    clear hS1001
    refine S.ixArr Try.underlying26 ti2 rfl rfl (by omega) rfl ?_
    refine S.loadAtG (m := 65) (i := 0) hS13 rfl Try.underlying2 rfl rfl (by first | assumption | exact rfl | exact tab_len | exact ofL_len | exact mrg_len | exact mixL_len | exact halfL_len | (rw [List.length_set]; first | assumption | exact ofL_len | exact mixL_len | exact halfL_len)) (by omega) rfl ?_
    first | refine S.as (d := 15) rfl (congrArg (Value.int .i64) gd_nat) ?_ | skip
    have hc1 := cnt_nonneg (k := bkt u10) (xs := xs.take i)
    have hc2 := cnt_le (k := bkt u10) (xs := xs.take i)
    refine S.as (d := 15) rfl (congrArg (Value.int .i64) (ofL_get (xs := xs.take i) hbu : (ofL (xs.take i)).getD (bkt u10) 0 = cnt (bkt u10) (xs.take i))) ?_
    have hc4 : (xs.take i).length ≤ xs.length := by rw [List.length_take]; omega
    first
      | refine S.addN rfl rfl rfl (by omega) ?_
      | refine S.add rfl rfl rfl ?_
    refine S.ixArr Try.underlying26 ti2 rfl rfl (by omega) rfl ?_
    refine S.storeAtG (m := 65) (i := 0) hS13 rfl ti2 rfl rfl (by first | assumption | exact rfl | exact tab_len | exact ofL_len | exact mrg_len | exact mixL_len | exact halfL_len | (rw [List.length_set]; first | assumption | exact ofL_len | exact mixL_len | exact halfL_len)) (by omega) rfl ?_
    intro w2001 hS2001; clear hS13
    refine WS.done ?_
    refine WR.region rfl ?_
    first
      | refine S.addN rfl rfl rfl (by omega) ?_
      | refine S.add rfl rfl rfl ?_
    refine S.moveT rfl ?_
    refine WS.done ?_
    exact ⟨_, (by omega), ⟨i + 1, rfl, (by omega), rfl, ⟨rfl, rfl, rfl, rfl, trivial⟩, (by rw [take_snoc (getI hu10), ← ofL_step hbu, ofL_get hbu]; exact hS2001)⟩⟩
  ·
    skip
    refine WR.exit ?_
    refine WR.seq ?_
    refine WR.region rfl ?_
    refine S.loadArr (i := 0) hS1001 rfl Try.underlying26 ti26 (by first | assumption | exact rfl | exact tab_len | exact ofL_len | exact mrg_len | exact mixL_len | exact halfL_len | (rw [List.length_set]; first | assumption | exact ofL_len | exact mixL_len | exact halfL_len)) rfl rfl ?_
    refine S.storeArr (i := 1) hS1001 rfl ti26 (by first | assumption | exact rfl | exact tab_len | exact ofL_len | exact mrg_len | exact mixL_len | exact halfL_len | (rw [List.length_set]; first | assumption | exact ofL_len | exact mixL_len | exact halfL_len)) (by first | assumption | exact rfl | exact tab_len | exact ofL_len | exact mrg_len | exact mixL_len | exact halfL_len | (rw [List.length_set]; first | assumption | exact ofL_len | exact mixL_len | exact halfL_len)) rfl rfl rfl ?_
    intro w2002 hS2002; clear hS1001
    refine WS.done ?_
    refine WR.ret (retC rfl rfl (run_loadArr (i := 1) hS2002 rfl Try.underlying26 ti26 (by first | assumption | exact rfl | exact tab_len | exact ofL_len | exact mrg_len | exact mixL_len | exact halfL_len | (rw [List.length_set]; first | assumption | exact ofL_len | exact mixL_len | exact halfL_len))) ?_)
    rw [List.take_of_length_le (by omega)]
    exact ⟨rfl, hS2002.drop.drop⟩

set_option maxRecDepth 100000 in
set_option maxHeartbeats 4000000 in
theorem h5_of {w : World} {R : Kn} {L : List HP}  (hS : St w R (L)) {v0 : Value} {xs : List Int} (h0 : Ro R (encI .i64) 1 v0 xs) (hf : ∀ x ∈ xs, fits x) (hm : xs.length ≤ 1000000) :
    Fn Try.prog 13 #[v0] w (fun v w' => v = aV (ofL xs) ∧ St w' R L) := by
  obtain ⟨a0, c0, rfl, hl0⟩ := h0.len
  refine Fn.intro (n := 22) Try.func13 rfl rfl rfl ?_
  refine WR.seq ?_
  refine WR.region rfl ?_
  refine S.alloc (cs := aI (List.replicate 65 0)) hS ti25 rfl rfl ?_
  intro b2 w2 hS2; clear hS
  refine WS.done ?_
  refine WR.seq ?_
  refine WR.region rfl ?_
  refine S.buildZero (cs := aI (List.replicate 65 0)) ti25 rfl (by kernel_rfl) rfl ?_
  refine S.alloc (cs := aI (List.replicate 65 0)) hS2 ti25 rfl rfl ?_
  intro b3 w3 hS3; clear hS2
  refine S.storeArr (i := 0) hS3 rfl ti25 (by first | assumption | exact rfl | exact tab_len | exact ofL_len | exact mrg_len | exact mixL_len | exact halfL_len | (rw [List.length_set]; first | assumption | exact ofL_len | exact mixL_len | exact halfL_len)) (by first | assumption | exact rfl | exact tab_len | exact ofL_len | exact mrg_len | exact mixL_len | exact halfL_len | (rw [List.length_set]; first | assumption | exact ofL_len | exact mixL_len | exact halfL_len)) rfl rfl rfl ?_
  intro w2001 hS2001; clear hS3
  refine WS.done ?_
  refine WR.seq ?_
  refine WR.seq ?_
  refine WR.region rfl ?_
  refine S.assignC rfl ?_
  refine WS.done ?_
  refine WR.block ?_
  refine WR.loopE (fun rq mm rr wr => ∃ (i : Nat), mm = xs.length - i ∧ (i ≤ xs.length) ∧ rr 4 = .int .i64 (i : Int) ∧ Agr [0, 2, 3] rr rq ∧ St wr R (blk b3 (.cells (aI (ofL (xs.take i))) 25 (0, 0)) :: blk b2 (.cells (aI zA) 25 (0, 0)) :: L)) ⟨0, rfl, (by omega), rfl, ⟨rfl, rfl, rfl, trivial⟩, (by rw [show xs.take 0 = [] from rfl, ofL_nil]; exact hS2001)⟩ ?_
  rintro mm rr w1001 ⟨i, hm1001, hi, hr1001_4, hA1001, hS1001⟩
  obtain ⟨rr, rfl⟩ := agrBack hA1001
  clear hA1001
  obtain ⟨rr, rfl⟩ := back1 (r := rr) hr1001_4
  clear hr1001_4
  refine WR.seq ?_
  refine WR.seq ?_
  refine WR.region rfl ?_
  refine S.moveT rfl ?_
  refine S.moveT rfl ?_
  refine S.lenSl Try.underlying22 rfl rfl ?_
  refine S.lss rfl rfl rfl ?_
  refine WS.done ?_
  refine WR.condD rfl (fun c9 => ?_) (fun c9 => ?_)
  ·
    skip
    refine WR.skip ?_
    refine WR.seq ?_
    refine WR.block ?_
    refine WR.region rfl ?_
    refine S.moveT rfl ?_
    refine S.moveT rfl ?_
    refine S.indexRo h0 Try.underlying22 ti2 rfl rfl (by omega) rfl ?_
    intro ad14 u14 hu14 hl14 hc14
    refine S.loadRo hS1001 hc14 rfl Try.underlying2 rfl rfl rfl ?_
    have hfu := hf u14 (List.mem_of_getElem? hu14)
    have hbu := bkt_lt hfu
    refine S.call ent24 rfl (h5_bucket hS1001 (by assumption)) rfl ?_
    rintro _ w16 ⟨rfl, hS16⟩
    clear hS1001
    refine S.ixArr Try.underlying25 ti2 rfl rfl (by omega) rfl ?_
    refine S.loadAtG (m := 65) (i := 0) hS16 rfl Try.underlying2 rfl rfl (by first | assumption | exact rfl | exact tab_len | exact ofL_len | exact mrg_len | exact mixL_len | exact halfL_len | (rw [List.length_set]; first | assumption | exact ofL_len | exact mixL_len | exact halfL_len)) (by omega) rfl ?_
    first | refine S.as (d := 18) rfl (congrArg (Value.int .i64) gd_nat) ?_ | skip
    have hc1 := cnt_nonneg (k := bkt u14) (xs := xs.take i)
    have hc2 := cnt_le (k := bkt u14) (xs := xs.take i)
    refine S.as (d := 18) rfl (congrArg (Value.int .i64) (ofL_get (xs := xs.take i) hbu : (ofL (xs.take i)).getD (bkt u14) 0 = cnt (bkt u14) (xs.take i))) ?_
    have hc4 : (xs.take i).length ≤ xs.length := by rw [List.length_take]; omega
    first
      | refine S.addN rfl rfl rfl (by omega) ?_
      | refine S.add rfl rfl rfl ?_
    refine S.ixArr Try.underlying25 ti2 rfl rfl (by omega) rfl ?_
    refine S.storeAtG (m := 65) (i := 0) hS16 rfl ti2 rfl rfl (by first | assumption | exact rfl | exact tab_len | exact ofL_len | exact mrg_len | exact mixL_len | exact halfL_len | (rw [List.length_set]; first | assumption | exact ofL_len | exact mixL_len | exact halfL_len)) (by omega) rfl ?_
    intro w2002 hS2002; clear hS16
    refine WS.done ?_
    refine WR.region rfl ?_
    refine S.moveT rfl ?_
    first
      | refine S.addN rfl rfl rfl (by omega) ?_
      | refine S.add rfl rfl rfl ?_
    refine S.assignT rfl ?_
    refine WS.done ?_
    exact ⟨_, (by omega), ⟨i + 1, rfl, (by omega), rfl, ⟨rfl, rfl, rfl, trivial⟩, (by rw [take_snoc (getI hu14), ← ofL_step hbu, ofL_get hbu]; exact hS2002)⟩⟩
  ·
    skip
    refine WR.exit ?_
    refine WR.seq ?_
    refine WR.region rfl ?_
    refine S.loadArr (i := 0) hS1001 rfl Try.underlying25 ti25 (by first | assumption | exact rfl | exact tab_len | exact ofL_len | exact mrg_len | exact mixL_len | exact halfL_len | (rw [List.length_set]; first | assumption | exact ofL_len | exact mixL_len | exact halfL_len)) rfl rfl ?_
    refine S.storeArr (i := 1) hS1001 rfl ti25 (by first | assumption | exact rfl | exact tab_len | exact ofL_len | exact mrg_len | exact mixL_len | exact halfL_len | (rw [List.length_set]; first | assumption | exact ofL_len | exact mixL_len | exact halfL_len)) (by first | assumption | exact rfl | exact tab_len | exact ofL_len | exact mrg_len | exact mixL_len | exact halfL_len | (rw [List.length_set]; first | assumption | exact ofL_len | exact mixL_len | exact halfL_len)) rfl rfl rfl ?_
    intro w2003 hS2003; clear hS1001
    refine WS.done ?_
    refine WR.ret (retC rfl rfl (run_loadArr (i := 1) hS2003 rfl Try.underlying25 ti25 (by first | assumption | exact rfl | exact tab_len | exact ofL_len | exact mrg_len | exact mixL_len | exact halfL_len | (rw [List.length_set]; first | assumption | exact ofL_len | exact mixL_len | exact halfL_len))) ?_)
    rw [List.take_of_length_le (by omega)]
    exact ⟨rfl, hS2003.drop.drop⟩

set_option maxRecDepth 100000 in
set_option maxHeartbeats 4000000 in
theorem h_right {w : World} {R : Kn} {L : List HP}  (hS : St w R (L)) {xs : List Int} (hl : xs.length = 65) :
    Fn Try.prog 28 #[aV xs] w (fun v w' => v = .bool (decide (rgt xs)) ∧ St w' R L) := by
  refine Fn.intro (n := 12) Try.func28 rfl rfl rfl ?_
  refine WR.seq ?_
  refine WR.region rfl ?_
  refine S.box (v := aV _) (cs := aI _) hS rfl rfl rfl ?_
  intro b1 w1 hS1; clear hS
  refine S.assignC rfl ?_
  refine WS.done ?_
  refine WR.seq ?_
  refine WR.seq ?_
  refine WR.region rfl ?_
  refine S.loadArr (i := 0) hS1 rfl Try.underlying26 ti26 (by first | assumption | exact rfl | exact tab_len | exact ofL_len | exact mrg_len | exact mixL_len | exact halfL_len | (rw [List.length_set]; first | assumption | exact ofL_len | exact mixL_len | exact halfL_len)) rfl rfl ?_
  refine S.moveC rfl ?_
  refine WS.done ?_
  refine WR.block ?_
  refine WR.loopE (fun rq mm rr wr => ∃ (i : Nat), mm = 65 - i ∧ (i ≤ 65 ∧ ∀ k < i, 0 ≤ xs.getD k 0) ∧ rr 6 = .int .i64 (i : Int) ∧ Agr [5] rr rq ∧ St wr R (blk b1 (.cells (aI xs) 26 (0, 0)) :: L)) ⟨0, rfl, (by exact ⟨by omega, fun k hk => absurd hk (by omega)⟩), rfl, ⟨rfl, trivial⟩, hS1⟩ ?_
  rintro mm rr w1001 ⟨i, hm1001, ⟨hi, hall⟩, hr1001_6, hA1001, hS1001⟩
  obtain ⟨rr, rfl⟩ := agrBack hA1001
  clear hA1001
  obtain ⟨rr, rfl⟩ := back1 (r := rr) hr1001_6
  clear hr1001_6
  refine WR.seq ?_
  refine WR.region rfl ?_
  refine S.lss rfl rfl rfl ?_
  refine WS.done ?_
  refine WR.seq ?_
  refine WR.condD rfl (fun c7 => ?_) (fun c7 => ?_)
  ·
    skip
    refine WR.skip ?_
    refine WR.seq ?_
    refine WR.block ?_
    refine WR.seq ?_
    refine WR.region rfl ?_
    refine S.ixValG Try.underlying26 Try.underlying2 rfl ti2 rfl rfl (by first | assumption | exact rfl | exact tab_len | exact ofL_len | exact mrg_len | exact mixL_len | exact halfL_len | (rw [List.length_set]; first | assumption | exact ofL_len | exact mixL_len | exact halfL_len)) (by omega) rfl ?_
    first | refine S.as (d := 8) rfl (congrArg (Value.int .i64) gd_nat) ?_ | skip
    refine S.assignT rfl ?_
    refine WS.done ?_
    refine WR.seq ?_
    refine WR.region rfl ?_
    refine S.moveT rfl ?_
    refine S.lss rfl rfl rfl ?_
    refine WS.done ?_
    refine WR.condD rfl (fun c10 => ?_) (fun c10 => ?_)
    ·
      skip
      refine WR.seq ?_
      refine WR.region rfl ?_
      refine S.assignC rfl ?_
      refine WS.done ?_
      refine WR.ret (ret1 rfl rfl ?_)
      exact ⟨congrArg Value.bool (decide_eq_false (fun h => absurd (rgt_getD h i) (by omega))).symm, hS1001.drop⟩
    ·
      skip
      refine WR.skip ?_
      refine WR.region rfl ?_
      first
        | refine S.addN rfl rfl rfl (by omega) ?_
        | refine S.add rfl rfl rfl ?_
      refine S.moveT rfl ?_
      refine WS.done ?_
      exact ⟨_, (by omega), ⟨i + 1, rfl, (by exact ⟨by omega, all_succ hall (by omega)⟩), rfl, ⟨rfl, trivial⟩, hS1001⟩⟩
  ·
    skip
    refine WR.exit ?_
    refine WR.seq ?_
    refine WR.region rfl ?_
    refine S.assignC rfl ?_
    refine WS.done ?_
    refine WR.ret (ret1 rfl rfl ?_)
    obtain rfl : i = 65 := by omega
    exact ⟨congrArg Value.bool (decide_eq_true ((all_getD hl).2 hall)).symm, hS1001.drop⟩

set_option maxRecDepth 100000 in
set_option maxHeartbeats 4000000 in
theorem h5_right {w : World} {R : Kn} {L : List HP}  (hS : St w R (L)) {xs : List Int} (hl : xs.length = 65) :
    Fn Try.prog 30 #[aV xs] w (fun v w' => v = .bool (decide (rgt xs)) ∧ St w' R L) := by
  refine Fn.intro (n := 12) Try.func30 rfl rfl rfl ?_
  refine WR.seq ?_
  refine WR.region rfl ?_
  refine S.box (v := aV _) (cs := aI _) hS rfl rfl rfl ?_
  intro b1 w1 hS1; clear hS
  refine S.assignC rfl ?_
  refine WS.done ?_
  refine WR.seq ?_
  refine WR.seq ?_
  refine WR.region rfl ?_
  refine S.assignC rfl ?_
  refine WS.done ?_
  refine WR.block ?_
  refine WR.loopE (fun rq mm rr wr => ∃ (i : Nat), mm = 65 - i ∧ (i ≤ 65 ∧ ∀ k < i, 0 ≤ xs.getD k 0) ∧ rr 3 = .int .i64 (i : Int) ∧ Agr [1] rr rq ∧ St wr R (blk b1 (.cells (aI xs) 25 (0, 0)) :: L)) ⟨0, rfl, (by exact ⟨by omega, fun k hk => absurd hk (by omega)⟩), rfl, ⟨rfl, trivial⟩, hS1⟩ ?_
  rintro mm rr w1001 ⟨i, hm1001, ⟨hi, hall⟩, hr1001_3, hA1001, hS1001⟩
  obtain ⟨rr, rfl⟩ := agrBack hA1001
  clear hA1001
  obtain ⟨rr, rfl⟩ := back1 (r := rr) hr1001_3
  clear hr1001_3
  refine WR.seq ?_
  refine WR.seq ?_
  refine WR.region rfl ?_
  refine S.moveT rfl ?_
  refine S.lss rfl rfl rfl ?_
  refine WS.done ?_
  refine WR.condD rfl (fun c5 => ?_) (fun c5 => ?_)
  ·
    skip
    refine WR.skip ?_
    refine WR.seq ?_
    refine WR.block ?_
    refine WR.seq ?_
    refine WR.region rfl ?_
    refine S.moveT rfl ?_
    refine S.ixArr Try.underlying25 ti2 rfl rfl (by omega) rfl ?_
    refine S.loadAtG (m := 65) (i := 0) hS1001 rfl Try.underlying2 rfl rfl (by first | assumption | exact rfl | exact tab_len | exact ofL_len | exact mrg_len | exact mixL_len | exact halfL_len | (rw [List.length_set]; first | assumption | exact ofL_len | exact mixL_len | exact halfL_len)) (by omega) rfl ?_
    first | refine S.as (d := 10) rfl (congrArg (Value.int .i64) gd_nat) ?_ | skip
    refine S.lss rfl rfl rfl ?_
    refine WS.done ?_
    refine WR.condD rfl (fun c11 => ?_) (fun c11 => ?_)
    ·
      skip
      refine WR.seq ?_
      refine WR.region rfl ?_
      refine S.assignC rfl ?_
      refine WS.done ?_
      refine WR.ret (ret1 rfl rfl ?_)
      exact ⟨congrArg Value.bool (decide_eq_false (fun h => absurd (rgt_getD h i) (by omega))).symm, hS1001.drop⟩
    ·
      skip
      refine WR.skip ?_
      refine WR.region rfl ?_
      refine S.moveT rfl ?_
      first
        | refine S.addN rfl rfl rfl (by omega) ?_
        | refine S.add rfl rfl rfl ?_
      refine S.assignT rfl ?_
      refine WS.done ?_
      exact ⟨_, (by omega), ⟨i + 1, rfl, (by exact ⟨by omega, all_succ hall (by omega)⟩), rfl, ⟨rfl, trivial⟩, hS1001⟩⟩
  ·
    skip
    refine WR.exit ?_
    refine WR.seq ?_
    refine WR.region rfl ?_
    refine S.assignC rfl ?_
    refine WS.done ?_
    refine WR.ret (ret1 rfl rfl ?_)
    obtain rfl : i = 65 := by omega
    exact ⟨congrArg Value.bool (decide_eq_true ((all_getD hl).2 hall)).symm, hS1001.drop⟩


end Go.Proofs.Ytmmdbincgianaaa.B

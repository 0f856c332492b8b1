import Derived.Test.YtnfideifgegijaaWalkA
namespace Go.Proofs.Ytnfideifgegijaa.B
open Go.Proofs Go.RowKit
set_option linter.unusedVariables false
set_option linter.unusedSimpArgs false
theorem bk_append (xs ys : List Int) : bk (xs ++ ys) = bk xs * 256 ^ ys.length + bk ys := by
  have key : ∀ (ys : List Int) (a : Int), ys.foldl (fun a x => a * 256 + x) a = a * 256 ^ ys.length + bk ys := by
    intro ys
    induction ys with
    | nil => intro a; simp [bk]
    | cons y ys ih =>
      intro a
      rw [List.foldl_cons, ih]
      have e : bk (y :: ys) = y * 256 ^ ys.length + bk ys := by
        show ys.foldl (fun a x => a * 256 + x) (0 * 256 + y) = _
        rw [ih]; congr 1; congr 1; omega
      rw [e, List.length_cons, Int.pow_succ, Int.add_mul, Int.add_assoc, Int.mul_assoc, Int.mul_comm 256]
  show (xs ++ ys).foldl _ 0 = _
  rw [List.foldl_append]
  exact key ys _
theorem bk_two {u l : Int} (hu : 0 ≤ u ∧ u < 18446744073709551616) (hl : 0 ≤ l ∧ l < 18446744073709551616) : bk (bw u 8 ++ bw l 8) = u * 18446744073709551616 + l := by
  rw [bk_append, bk_bw8 hu, bk_bw8 hl, bw_len]; rfl
theorem bw_head (w : Int) (r : List Int) : (bw w 8 ++ r)[0]? = some (w / 72057594037927936 % 256) := by
  simp [bw]
/-- Which of two rows of bytes is the greater, as far as they were gone through. -/
def Lx (X Y : List Int) (i : Nat) (q : Int) : Prop := (q = 0 ∧ X.take i = Y.take i) ∨ (q = 1 ∧ bk Y < bk X) ∨ (q = -1 ∧ bk X < bk Y)
theorem Lx.start (X Y : List Int) : Lx X Y 0 0 := .inl ⟨rfl, rfl⟩
theorem lex_lt {X Y : List Int} {i : Nat} {x y : Int} (hX : ∀ x ∈ X, 0 ≤ x ∧ x < 256) (hY : ∀ x ∈ Y, 0 ≤ x ∧ x < 256) (hl : X.length = Y.length) (ht : X.take i = Y.take i) (hx : X[i]? = some x) (hy : Y[i]? = some y) (h : y < x) : bk Y < bk X := by
  have hi := (List.getElem?_eq_some_iff.1 hx).1
  have hi2 := (List.getElem?_eq_some_iff.1 hy).1
  have e1 : X = X.take i ++ ([x] ++ X.drop (i + 1)) := by
    conv => lhs; rw [← List.take_append_drop i X, List.drop_eq_getElem_cons hi, (List.getElem?_eq_some_iff.1 hx).2]
    rfl
  have e2 : Y = Y.take i ++ ([y] ++ Y.drop (i + 1)) := by
    conv => lhs; rw [← List.take_append_drop i Y, List.drop_eq_getElem_cons hi2, (List.getElem?_eq_some_iff.1 hy).2]
    rfl
  have n1 : (X.drop (i + 1)).length = (Y.drop (i + 1)).length := by rw [List.length_drop, List.length_drop, hl]
  obtain ⟨h1, h2⟩ := bk_range _ (X.drop (i + 1)) rfl (fun z hz => hX z (List.mem_of_mem_drop hz))
  obtain ⟨h3, h4⟩ := bk_range _ (Y.drop (i + 1)) rfl (fun z hz => hY z (List.mem_of_mem_drop hz))
  rw [e1, e2, bk_append (Y.take i), bk_append (X.take i), bk_append [x], bk_append [y], ht]
  simp only [List.length_append, List.length_cons, List.length_nil]
  rw [n1] at h2 ⊢
  have e3 : bk [x] = x := by simp [bk]
  have e4 : bk [y] = y := by simp [bk]
  rw [e3, e4]
  generalize (256 : Int) ^ (Y.drop (i + 1)).length = p at *
  generalize bk (Y.take i) * (256 : Int) ^ (0 + 1 + (Y.drop (i + 1)).length) = m at *
  have h5 : (y + 1) * p ≤ x * p := Int.mul_le_mul_of_nonneg_right (by omega) (by omega)
  rw [Int.add_mul] at h5
  omega
theorem Lx.step {X Y : List Int} {i : Nat} {q q' x y : Int} (h : Lx X Y i q) (hX : ∀ x ∈ X, 0 ≤ x ∧ x < 256) (hY : ∀ x ∈ Y, 0 ≤ x ∧ x < 256) (hl : X.length = Y.length) (hq : q = 0) (hx : X[i]? = some x) (hy : Y[i]? = some y) (hc : (y < x ∧ q' = 1) ∨ (x < y ∧ q' = -1) ∨ (x = y ∧ q' = q)) : Lx X Y (i + 1) q' := by
  have ht : X.take i = Y.take i := by
    rcases h with ⟨_, h⟩ | ⟨h, _⟩ | ⟨h, _⟩
    · exact h
    · omega
    · omega
  rcases hc with ⟨c1, c2⟩ | ⟨c1, c2⟩ | ⟨c1, c2⟩
  · exact .inr (.inl ⟨c2, lex_lt hX hY hl ht hx hy c1⟩)
  · exact .inr (.inr ⟨c2, lex_lt hY hX hl.symm ht.symm hy hx c1⟩)
  · refine .inl ⟨by omega, ?_⟩
    subst c1
    rw [List.take_add_one, List.take_add_one, hx, hy, ht]
theorem Lx.fin {X Y : List Int} {i : Nat} {q : Int} (h : Lx X Y i q) (hc : 16 ≤ i ∨ q ≠ 0) (h1 : X.length = 16) (h2 : Y.length = 16) : (q = 0 ∧ bk X = bk Y) ∨ (q = 1 ∧ bk Y < bk X) ∨ (q = -1 ∧ bk X < bk Y) := by
  rcases h with ⟨h, h'⟩ | h | h
  · refine .inl ⟨h, ?_⟩
    rw [List.take_of_length_le (by omega), List.take_of_length_le (by omega)] at h'
    rw [h']
  · exact .inr (.inl h)
  · exact .inr (.inr h)
theorem bytes_same {xs : List Int} {h l : Int} (hb : ∀ x ∈ xs, 0 ≤ x ∧ x < 256) (hh : fits h) (hl : 0 ≤ l ∧ l < 18446744073709551616) (hW : (xs.length = 16 ∧ h % 18446744073709551616 = bk (xs.take 8) ∧ l = bk (xs.drop 8)) ∨ (xs.length ≠ 16 ∧ h = 0 ∧ l = 0)) (h16 : xs.length = 16) : bw (h % 18446744073709551616) 8 ++ bw l 8 = xs := by
  rcases hW with ⟨_, h1, h2⟩ | ⟨h1, _⟩
  · have e1 : bw (h % 18446744073709551616) 8 = xs.take 8 := bk_inj 8 _ _ (bw_len _ _) (by rw [List.length_take]; omega) (bw_byte _ _) (fun x hx => hb x (List.mem_of_mem_take hx)) (by rw [bk_bw8 (by omega)]; exact h1)
    have e2 : bw l 8 = xs.drop 8 := bk_inj 8 _ _ (bw_len _ _) (by rw [List.length_drop]; omega) (bw_byte _ _) (fun x hx => hb x (List.mem_of_mem_drop hx)) (by rw [bk_bw8 hl]; exact h2)
    rw [e1, e2, List.take_append_drop]
  · exact absurd h16 h1
theorem beq_dec {p q : Prop} [Decidable p] [Decidable q] (h : p ↔ q) : (!(decide p == decide q)) = false := by
  by_cases hp : p
  · have hq := h.1 hp; simp [hp, hq]
  · have hq : ¬ q := fun k => hp (h.2 k); simp [hp, hq]
set_option maxRecDepth 100000 in
set_option maxHeartbeats 4000000 in
theorem law_WideBytes {w : World} {R : Kn} {L : List HP}  (hS : St w R (L)) {ah al bh bl : Int} {v2 : Value} {xs : List Int} (ha : fits ah) (hal : (0 ≤ al ∧ al < 18446744073709551616)) (hb : fits bh) (hbl : (0 ≤ bl ∧ bl < 18446744073709551616)) (h2 : Ro R (encI .u8) 1 v2 xs) (hby : ∀ x ∈ xs, 0 ≤ x ∧ x < 256) (hm : xs.length ≤ 140737488355328) :
    Fn Try.prog 6 #[.agg #[.int .i64 (ah), .int .u64 (al)], .agg #[.int .i64 (bh), .int .u64 (bl)], v2] w (fun v w' => v = .bool true ∧ St w' R L) := by
  obtain ⟨a2, c2, rfl, hl2⟩ := h2.len
  have hlA : (bw (ah % 18446744073709551616) 8 ++ bw al 8).length = 16 := by rw [List.length_append, bw_len, bw_len]
  have hlB : (bw (bh % 18446744073709551616) 8 ++ bw bl 8).length = 16 := by rw [List.length_append, bw_len, bw_len]
  obtain ⟨X, hX⟩ : ∃ X, (bw (ah % 18446744073709551616) 8 ++ bw al 8) = X := ⟨_, rfl⟩
  obtain ⟨Y, hY⟩ : ∃ Y, (bw (bh % 18446744073709551616) 8 ++ bw bl 8) = Y := ⟨_, rfl⟩
  have hbX : bk X = ah % 18446744073709551616 * 18446744073709551616 + al := by rw [← hX]; exact bk_two (by omega) hal
  have hbY : bk Y = bh % 18446744073709551616 * 18446744073709551616 + bl := by rw [← hY]; exact bk_two (by omega) hbl
  have hyX : ∀ x ∈ X, 0 ≤ x ∧ x < 256 := by rw [← hX]; exact (fun x hx => (List.mem_append.1 hx).elim (bw_byte _ _ x) (bw_byte _ _ x))
  have hyY : ∀ x ∈ Y, 0 ≤ x ∧ x < 256 := by rw [← hY]; exact (fun x hx => (List.mem_append.1 hx).elim (bw_byte _ _ x) (bw_byte _ _ x))
  have hhd := bw_head (ah % 18446744073709551616) (bw al 8)
  rw [hX] at hlA hhd
  rw [hY] at hlB
  have hah := id ha
  have hbh := id hb
  unfold fits at hah hbh
  have hcc := cmpI_cases (ah * 18446744073709551616 + al) (bh * 18446744073709551616 + bl)
  refine Fn.intro (n := 116) Try.func6 rfl rfl rfl ?_
  refine WR.seq ?_
  refine WR.region rfl ?_
  refine S.box hS rfl rfl rfl ?_
  intro b3 w3 hS3; clear hS
  refine S.box hS3 rfl rfl rfl ?_
  intro b4 w4 hS4; clear hS3
  refine S.assignC rfl ?_
  refine WS.done ?_
  refine WR.seq ?_
  refine WR.seq ?_
  refine WR.region rfl ?_
  refine S.call ent8 rfl (l2_alive hS4 ) rfl ?_
  rintro _ w15 ⟨rfl, hS15⟩
  clear hS4
  refine S.not rfl rfl ?_
  refine WS.done ?_
  refine WR.condF rfl ?_
  refine WR.skip ?_
  refine WR.seq ?_
  refine WR.region rfl ?_
  refine S.loadBA (i := 1) hS15 rfl Try.underlying24 rfl ti24 rfl rfl rfl rfl ?_
  refine S.call ent31 rfl (w_bytes hS15 (by exact ha) (by exact hal)) rfl ?_
  rintro v18 w18 hS18
  clear hS15
  rw [hX] at hS18
  obtain ⟨R18, hR18, hro18, hSf18⟩ := hS18.freeze (fun _ _ => rfl)
  obtain ⟨a18, d18, rfl, hl18⟩ := hro18.len
  replace h2 := h2.mono hR18
  refine S.assignT rfl ?_
  refine WS.done ?_
  refine WR.seq ?_
  refine WR.region rfl ?_
  refine S.loadBA (i := 0) hSf18 rfl Try.underlying24 rfl ti24 rfl rfl rfl rfl ?_
  refine S.call ent31 rfl (w_bytes hSf18 (by exact hb) (by exact hbl)) rfl ?_
  rintro v20 w20 hS20
  clear hSf18
  rw [hY] at hS20
  obtain ⟨R20, hR20, hro20, hSf20⟩ := hS20.freeze (fun _ _ => rfl)
  obtain ⟨a20, d20, rfl, hl20⟩ := hro20.len
  replace h2 := h2.mono hR20
  replace hro18 := hro18.mono hR20
  refine S.assignT rfl ?_
  refine WS.done ?_
  refine WR.seq ?_
  refine WR.region rfl ?_
  refine S.moveT rfl ?_
  refine S.call ent33 rfl (r_copyBytes hSf20 (by exact hro18) (by omega)) rfl ?_
  rintro v23 w23 hS23
  clear hSf20
  obtain ⟨R23, hR23, hro23, hSf23⟩ := hS23.freeze (fun _ _ => rfl)
  replace h2 := h2.mono hR23
  replace hro18 := hro18.mono hR23
  replace hro20 := hro20.mono hR23
  refine S.call ent32 rfl (w_wback hSf23 (by exact hro23) (by exact hyX)) rfl ?_
  rintro _ w24 ⟨h24, l24, rfl, hf24, hW24, hS24⟩
  clear hSf23
  rw [← hX] at hW24
  obtain ⟨rfl, rfl⟩ := back_same ha hal hf24.1 hW24
  refine S.moveT rfl ?_
  refine S.extract rfl rfl rfl ?_
  refine S.extract rfl rfl rfl ?_
  refine S.alloc hS24 ti24 rfl rfl ?_
  intro b9 w9 hS9; clear hS24
  refine S.storeB (i := 0) hS9 rfl ti24 rfl rfl rfl rfl rfl rfl rfl rfl ?_
  intro w2001 hS2001; clear hS9
  refine S.assignT rfl ?_
  refine S.isTD (p := X.length = 16) (d := 10) rfl hlA ?_
  refine WS.done ?_
  refine WR.seq ?_
  refine WR.seq ?_
  refine WR.regionQ mixed hS2001 (by kernel_rfl) rfl ?_
  refine Q.moveT rfl ?_
  refine Q.lenSl Try.underlying59 rfl rfl ?_
  refine Q.neq rfl rfl rfl ?_
  refine Q.isFD (d := 29) rfl (by omega) ?_
  refine Q.moveT rfl ?_
  refine Q.moveT rfl ?_
  refine Q.lenSl Try.underlying59 rfl rfl ?_
  refine Q.neq rfl rfl rfl ?_
  refine Q.isFD (d := 33) rfl (by omega) ?_
  refine Q.pickF rfl rfl ?_
  refine Q.moveT rfl ?_
  refine Q.moveT rfl ?_
  refine Q.not rfl rfl ?_
  refine Q.pickF rfl rfl ?_
  refine Q.moveT rfl ?_
  refine Q.loadBA (i := 0) rfl Try.underlying24 rfl ti24 rfl rfl rfl rfl ?_
  refine Q.loadBA (i := 2) rfl Try.underlying24 rfl ti24 rfl rfl rfl rfl ?_
  refine Q.neqS rfl rfl (by kernel_rfl) (Eq1.struct Try.underlying24 (by kernel_rfl) (EqF.cons (by decide) (Part1.one Try.underlying2 rfl rfl) (Part1.one Try.underlying2 rfl rfl) (Eq1.int Try.underlying2) (EqF.one (by decide) (Part1.one Try.underlying22 rfl rfl) (Part1.one Try.underlying22 rfl rfl) (Eq1.int Try.underlying22)))) rfl ?_
  refine Q.isFD (d := 42) rfl (by omega) ?_
  refine Q.pickF rfl rfl ?_
  refine Q.moveT rfl ?_
  refine Q.fieldB Try.underlying24 rfl ti2 rfl rfl rfl rfl ?_
  refine Q.loadB (i := 2) rfl Try.underlying2 rfl rfl rfl rfl ?_
  refine Q.lss rfl rfl rfl ?_
  refine Q.moveT rfl ?_
  refine Q.indexRo hro18 Try.underlying59 ti5 rfl rfl (by omega) rfl ?_
  intro ad49 u49 hu49 hl49 hc49
  refine Q.loadRo hc49 rfl Try.underlying5 rfl rfl rfl ?_
  refine Q.gtr rfl rfl rfl ?_
  refine Q.neqB Try.underlying4 rfl rfl rfl ?_
  refine Q.isB (d := 52) (c := false) rfl (by have hq := Option.some.inj ((show X[0]? = some u49 from hu49).symm.trans hhd); exact beq_dec (by omega)) ?_
  refine Q.pickF rfl rfl ?_
  refine WQ.done ?_
  intro w5002 hS5002
  clear hS2001
  refine WR.condF rfl ?_
  refine WR.skip ?_
  refine WR.seq ?_
  refine WR.region rfl ?_
  refine S.assignC rfl ?_
  refine WS.done ?_
  refine WR.seq ?_
  refine WR.seq ?_
  refine WR.region rfl ?_
  refine S.assignC rfl ?_
  refine WS.done ?_
  refine WR.block ?_
  refine WR.loopE (fun rq mm rr wr => ∃ (i : Nat) (q : Int), mm = 16 - i ∧ (i ≤ 16 ∧ Lx X Y i q) ∧ rr 11 = .int .i64 q ∧ rr 12 = .int .i64 (i : Int) ∧ Agr [2, 3, 4, 7, 8] rr rq ∧ St wr R23 (blk b9 (.cells (#[.int .i64 ah, .int .u64 al]) 24 (0, 0)) :: blk b4 (.cells (#[.int .i64 bh, .int .u64 bl]) 24 (0, 0)) :: blk b3 (.cells (#[.int .i64 ah, .int .u64 al]) 24 (0, 0)) :: L)) ⟨0, 0, rfl, (by exact ⟨by omega, Lx.start X Y⟩), rfl, rfl, ⟨rfl, rfl, rfl, rfl, rfl, trivial⟩, hS5002⟩ ?_
  rintro mm rr w1001 ⟨i, q, hm1001, ⟨hi, hL⟩, hr1001_11, hr1001_12, hA1001, hS1001⟩
  obtain ⟨rr, rfl⟩ := agrBack hA1001
  clear hA1001
  obtain ⟨rr, rfl⟩ := back2 (r := rr) hr1001_11 hr1001_12
  clear hr1001_11 hr1001_12
  refine WR.seq ?_
  refine WR.seq ?_
  refine WR.region rfl ?_
  refine S.moveT rfl ?_
  refine S.lss rfl rfl rfl ?_
  refine S.moveT rfl ?_
  refine S.splitD (d := 56) rfl (fun c56 => ?_) (fun c56 => ?_)
  ·
    skip
    refine S.moveT rfl ?_
    refine S.eql rfl rfl rfl ?_
    refine S.pickT rfl rfl ?_
    refine WS.done ?_
    refine WR.condD rfl (fun c59 => ?_) (fun c59 => ?_)
    ·
      skip
      refine WR.skip ?_
      refine WR.seq ?_
      refine WR.block ?_
      refine WR.seq ?_
      refine WR.seq ?_
      refine WR.regionQ mixed hS1001 (by kernel_rfl) rfl ?_
      refine Q.moveT rfl ?_
      refine Q.moveT rfl ?_
      refine Q.indexRo hro18 Try.underlying59 ti5 rfl rfl (by omega) rfl ?_
      intro ad64 u64 hu64 hl64 hc64
      refine Q.loadRo hc64 rfl Try.underlying5 rfl rfl rfl ?_
      refine Q.moveT rfl ?_
      refine Q.moveT rfl ?_
      refine Q.indexRo hro20 Try.underlying59 ti5 rfl rfl (by omega) rfl ?_
      intro ad68 u68 hu68 hl68 hc68
      refine Q.loadRo hc68 rfl Try.underlying5 rfl rfl rfl ?_
      refine Q.gtr rfl rfl rfl ?_
      refine WQ.done ?_
      intro w5003 hS5003
      clear hS1001
      refine WR.condD rfl (fun c70 => ?_) (fun c70 => ?_)
      ·
        skip
        refine WR.region rfl ?_
        refine S.assignC rfl ?_
        refine WS.done ?_
        refine WR.seq ?_
        refine WR.regionQ mixed hS5003 (by kernel_rfl) rfl ?_
        refine Q.moveT rfl ?_
        refine Q.moveT rfl ?_
        refine Q.indexRo hro18 Try.underlying59 ti5 rfl rfl (by omega) rfl ?_
        intro ad73 u73 hu73 hl73 hc73
        refine Q.loadRo hc73 rfl Try.underlying5 rfl rfl rfl ?_
        refine Q.moveT rfl ?_
        refine Q.moveT rfl ?_
        refine Q.indexRo hro20 Try.underlying59 ti5 rfl rfl (by omega) rfl ?_
        intro ad77 u77 hu77 hl77 hc77
        refine Q.loadRo hc77 rfl Try.underlying5 rfl rfl rfl ?_
        refine Q.lss rfl rfl rfl ?_
        refine WQ.done ?_
        intro w5004 hS5004
        clear hS5003
        refine WR.condD rfl (fun c79 => ?_) (fun c79 => ?_)
        ·
          skip
          refine WR.region rfl ?_
          refine S.assignC rfl ?_
          refine WS.done ?_
          refine WR.region rfl ?_
          refine S.moveT rfl ?_
          first
            | refine S.addN rfl rfl rfl (by omega) ?_
            | refine S.add rfl rfl rfl ?_
          refine S.assignT rfl ?_
          refine WS.done ?_
          exact ⟨_, (by omega), ⟨i + 1, _, rfl, (by have e1 := Option.some.inj (hu73.symm.trans hu64); have e2 := Option.some.inj (hu77.symm.trans hu68); exact ⟨by omega, hL.step hyX hyY (hlA.trans hlB.symm) (by omega) (getI hu64) (getI hu68) (by omega)⟩), rfl, rfl, ⟨rfl, rfl, rfl, rfl, rfl, trivial⟩, hS5004⟩⟩
        ·
          skip
          refine WR.skip ?_
          refine WR.region rfl ?_
          refine S.moveT rfl ?_
          first
            | refine S.addN rfl rfl rfl (by omega) ?_
            | refine S.add rfl rfl rfl ?_
          refine S.assignT rfl ?_
          refine WS.done ?_
          exact ⟨_, (by omega), ⟨i + 1, _, rfl, (by have e1 := Option.some.inj (hu73.symm.trans hu64); have e2 := Option.some.inj (hu77.symm.trans hu68); exact ⟨by omega, hL.step hyX hyY (hlA.trans hlB.symm) (by omega) (getI hu64) (getI hu68) (by omega)⟩), rfl, rfl, ⟨rfl, rfl, rfl, rfl, rfl, trivial⟩, hS5004⟩⟩
      ·
        skip
        refine WR.skip ?_
        refine WR.seq ?_
        refine WR.regionQ mixed hS5003 (by kernel_rfl) rfl ?_
        refine Q.moveT rfl ?_
        refine Q.moveT rfl ?_
        refine Q.indexRo hro18 Try.underlying59 ti5 rfl rfl (by omega) rfl ?_
        intro ad73 u73 hu73 hl73 hc73
        refine Q.loadRo hc73 rfl Try.underlying5 rfl rfl rfl ?_
        refine Q.moveT rfl ?_
        refine Q.moveT rfl ?_
        refine Q.indexRo hro20 Try.underlying59 ti5 rfl rfl (by omega) rfl ?_
        intro ad77 u77 hu77 hl77 hc77
        refine Q.loadRo hc77 rfl Try.underlying5 rfl rfl rfl ?_
        refine Q.lss rfl rfl rfl ?_
        refine WQ.done ?_
        intro w5005 hS5005
        clear hS5003
        refine WR.condD rfl (fun c79 => ?_) (fun c79 => ?_)
        ·
          skip
          refine WR.region rfl ?_
          refine S.assignC rfl ?_
          refine WS.done ?_
          refine WR.region rfl ?_
          refine S.moveT rfl ?_
          first
            | refine S.addN rfl rfl rfl (by omega) ?_
            | refine S.add rfl rfl rfl ?_
          refine S.assignT rfl ?_
          refine WS.done ?_
          exact ⟨_, (by omega), ⟨i + 1, _, rfl, (by have e1 := Option.some.inj (hu73.symm.trans hu64); have e2 := Option.some.inj (hu77.symm.trans hu68); exact ⟨by omega, hL.step hyX hyY (hlA.trans hlB.symm) (by omega) (getI hu64) (getI hu68) (by omega)⟩), rfl, rfl, ⟨rfl, rfl, rfl, rfl, rfl, trivial⟩, hS5005⟩⟩
        ·
          skip
          refine WR.skip ?_
          refine WR.region rfl ?_
          refine S.moveT rfl ?_
          first
            | refine S.addN rfl rfl rfl (by omega) ?_
            | refine S.add rfl rfl rfl ?_
          refine S.assignT rfl ?_
          refine WS.done ?_
          exact ⟨_, (by omega), ⟨i + 1, _, rfl, (by have e1 := Option.some.inj (hu73.symm.trans hu64); have e2 := Option.some.inj (hu77.symm.trans hu68); exact ⟨by omega, hL.step hyX hyY (hlA.trans hlB.symm) (by omega) (getI hu64) (getI hu68) (by omega)⟩), rfl, rfl, ⟨rfl, rfl, rfl, rfl, rfl, trivial⟩, hS5005⟩⟩
    ·
      skip
      refine WR.exit ?_
      refine WR.seq ?_
      refine WR.seq ?_
      refine WR.region rfl ?_
      refine S.fieldB Try.underlying24 rfl ti2 rfl rfl rfl rfl ?_
      refine S.loadB (i := 2) hS1001 rfl Try.underlying2 rfl rfl rfl rfl ?_
      refine S.lss rfl rfl rfl ?_
      refine S.fieldB Try.underlying24 rfl ti2 rfl rfl rfl rfl ?_
      refine S.loadB (i := 1) hS1001 rfl Try.underlying2 rfl rfl rfl rfl ?_
      refine S.lss rfl rfl rfl ?_
      refine S.eqlB Try.underlying4 rfl rfl rfl ?_
      refine S.moveT rfl ?_
      refine S.splitB (d := 87) rfl (fun c87 => ?_) (fun c87 => ?_)
      ·
        skip
        refine S.moveT rfl ?_
        refine S.loadBA (i := 2) hS1001 rfl Try.underlying24 rfl ti24 rfl rfl rfl rfl ?_
        refine S.loadBA (i := 1) hS1001 rfl Try.underlying24 rfl ti24 rfl rfl rfl rfl ?_
        refine S.call ent17 rfl (w_cmp hS1001 (by exact hal) (by exact hbl)) rfl ?_
        rintro _ w91 ⟨rfl, hS91⟩
        clear hS1001
        refine S.neq rfl rfl rfl ?_
        refine S.isFD (d := 92) rfl (by have hq := hL.fin (by omega) (by omega) (by omega); have hi2 : ah < 0 ↔ bh < 0 := (by simpa using c87); omega) ?_
        refine S.pickT rfl rfl ?_
        refine WS.done ?_
        refine WR.condF rfl ?_
        refine WR.skip ?_
        refine WR.seq ?_
        refine WR.region rfl ?_
        refine S.moveT rfl ?_
        refine S.call ent32 rfl (w_wback hS91 (by exact h2) (by exact hby)) rfl ?_
        rintro _ w96 ⟨h96, l96, rfl, hf96, hW96, hS96⟩
        clear hS91
        refine S.moveT rfl ?_
        refine S.extract rfl rfl rfl ?_
        refine S.extract rfl rfl rfl ?_
        refine S.alloc hS96 ti24 rfl rfl ?_
        intro b13 w13 hS13; clear hS96
        refine S.storeB (i := 0) hS13 rfl ti24 rfl rfl rfl rfl rfl rfl rfl rfl ?_
        intro w2006 hS2006; clear hS13
        refine S.assignT rfl ?_
        refine WS.done ?_
        refine WR.seq ?_
        refine WR.seq ?_
        refine WR.region rfl ?_
        refine S.moveT rfl ?_
        refine S.lenSl Try.underlying59 rfl rfl ?_
        refine S.neq rfl rfl rfl ?_
        refine WS.done ?_
        refine WR.condD rfl (fun c101 => ?_) (fun c101 => ?_)
        ·
          skip
          refine WR.seq ?_
          refine WR.region rfl ?_
          refine S.moveT rfl ?_
          refine S.isFD (p := xs.length = 16) (d := 102) rfl (by omega) ?_
          refine S.not rfl rfl ?_
          refine S.moveT rfl ?_
          refine S.loadBA (i := 0) hS2006 rfl Try.underlying24 rfl ti24 rfl rfl rfl rfl ?_
          refine S.buildZero ti24 rfl (by kernel_rfl) rfl ?_
          refine S.eqlS rfl rfl (by kernel_rfl) (Eq1.struct Try.underlying24 (by kernel_rfl) (EqF.cons (by decide) (Part1.one Try.underlying2 rfl rfl) (Part1.one Try.underlying2 rfl rfl) (Eq1.int Try.underlying2) (EqF.one (by decide) (Part1.one Try.underlying22 rfl rfl) (Part1.one Try.underlying22 rfl rfl) (Eq1.int Try.underlying22)))) rfl ?_
          refine S.isTD (d := 107) rfl (by omega) ?_
          refine S.pickT rfl rfl ?_
          refine S.assignT rfl ?_
          refine WS.done ?_
          refine WR.ret (ret1 rfl rfl ?_)
          first | exact ⟨rfl, hS2006.drop.drop.drop.drop.weak (hR18.trans (hR20.trans (hR23.trans hR112)))⟩ | exact ⟨rfl, hS2006.drop.drop.drop.drop.weak (hR18.trans (hR20.trans hR23))⟩
        ·
          skip
          refine WR.skip ?_
          refine WR.seq ?_
          refine WR.region rfl ?_
          refine S.moveT rfl ?_
          refine S.moveT rfl ?_
          refine S.isTD (p := xs.length = 16) (d := 110) rfl (by omega) ?_
          refine S.loadBA (i := 0) hS2006 rfl Try.underlying24 rfl ti24 rfl rfl rfl rfl ?_
          refine S.call ent31 rfl (w_bytes hS2006 (by exact hf96.1) (by exact hf96.2)) rfl ?_
          rintro v112 w112 hS112
          clear hS2006
          obtain ⟨R112, hR112, hro112, hSf112⟩ := hS112.freeze (fun _ _ => rfl)
          replace h2 := h2.mono hR112
          replace hro18 := hro18.mono hR112
          replace hro20 := hro20.mono hR112
          replace hro23 := hro23.mono hR112
          refine S.moveT rfl ?_
          refine S.call ent34 rfl (r_sameBytes hSf112 (by exact hro112) (by exact h2) (by rw [List.length_append, bw_len, bw_len]; decide)) rfl ?_
          rintro _ w114 ⟨rfl, hS114⟩
          clear hSf112
          refine S.isTD (d := 114) rfl (by exact bytes_same hby hf96.1 hf96.2 hW96 (by omega)) ?_
          refine S.pickT rfl rfl ?_
          refine S.assignT rfl ?_
          refine WS.done ?_
          refine WR.ret (ret1 rfl rfl ?_)
          first | exact ⟨rfl, hS114.drop.drop.drop.drop.weak (hR18.trans (hR20.trans (hR23.trans hR112)))⟩ | exact ⟨rfl, hS114.drop.drop.drop.drop.weak (hR18.trans (hR20.trans hR23))⟩
      ·
        skip
        refine S.off rfl ?_
        refine S.off rfl ?_
        refine S.off rfl ?_
        refine S.off rfl ?_
        refine S.off rfl ?_
        refine S.pickFC rfl rfl ?_
        refine WS.done ?_
        refine WR.condF rfl ?_
        refine WR.skip ?_
        refine WR.seq ?_
        refine WR.region rfl ?_
        refine S.moveT rfl ?_
        refine S.call ent32 rfl (w_wback hS1001 (by exact h2) (by exact hby)) rfl ?_
        rintro _ w96 ⟨h96, l96, rfl, hf96, hW96, hS96⟩
        clear hS1001
        refine S.moveT rfl ?_
        refine S.extract rfl rfl rfl ?_
        refine S.extract rfl rfl rfl ?_
        refine S.alloc hS96 ti24 rfl rfl ?_
        intro b13 w13 hS13; clear hS96
        refine S.storeB (i := 0) hS13 rfl ti24 rfl rfl rfl rfl rfl rfl rfl rfl ?_
        intro w2007 hS2007; clear hS13
        refine S.assignT rfl ?_
        refine WS.done ?_
        refine WR.seq ?_
        refine WR.seq ?_
        refine WR.region rfl ?_
        refine S.moveT rfl ?_
        refine S.lenSl Try.underlying59 rfl rfl ?_
        refine S.neq rfl rfl rfl ?_
        refine WS.done ?_
        refine WR.condD rfl (fun c101 => ?_) (fun c101 => ?_)
        ·
          skip
          refine WR.seq ?_
          refine WR.region rfl ?_
          refine S.moveT rfl ?_
          refine S.isFD (p := xs.length = 16) (d := 102) rfl (by omega) ?_
          refine S.not rfl rfl ?_
          refine S.moveT rfl ?_
          refine S.loadBA (i := 0) hS2007 rfl Try.underlying24 rfl ti24 rfl rfl rfl rfl ?_
          refine S.buildZero ti24 rfl (by kernel_rfl) rfl ?_
          refine S.eqlS rfl rfl (by kernel_rfl) (Eq1.struct Try.underlying24 (by kernel_rfl) (EqF.cons (by decide) (Part1.one Try.underlying2 rfl rfl) (Part1.one Try.underlying2 rfl rfl) (Eq1.int Try.underlying2) (EqF.one (by decide) (Part1.one Try.underlying22 rfl rfl) (Part1.one Try.underlying22 rfl rfl) (Eq1.int Try.underlying22)))) rfl ?_
          refine S.isTD (d := 107) rfl (by omega) ?_
          refine S.pickT rfl rfl ?_
          refine S.assignT rfl ?_
          refine WS.done ?_
          refine WR.ret (ret1 rfl rfl ?_)
          first | exact ⟨rfl, hS2007.drop.drop.drop.drop.weak (hR18.trans (hR20.trans (hR23.trans hR112)))⟩ | exact ⟨rfl, hS2007.drop.drop.drop.drop.weak (hR18.trans (hR20.trans hR23))⟩
        ·
          skip
          refine WR.skip ?_
          refine WR.seq ?_
          refine WR.region rfl ?_
          refine S.moveT rfl ?_
          refine S.moveT rfl ?_
          refine S.isTD (p := xs.length = 16) (d := 110) rfl (by omega) ?_
          refine S.loadBA (i := 0) hS2007 rfl Try.underlying24 rfl ti24 rfl rfl rfl rfl ?_
          refine S.call ent31 rfl (w_bytes hS2007 (by exact hf96.1) (by exact hf96.2)) rfl ?_
          rintro v112 w112 hS112
          clear hS2007
          obtain ⟨R112, hR112, hro112, hSf112⟩ := hS112.freeze (fun _ _ => rfl)
          replace h2 := h2.mono hR112
          replace hro18 := hro18.mono hR112
          replace hro20 := hro20.mono hR112
          replace hro23 := hro23.mono hR112
          refine S.moveT rfl ?_
          refine S.call ent34 rfl (r_sameBytes hSf112 (by exact hro112) (by exact h2) (by rw [List.length_append, bw_len, bw_len]; decide)) rfl ?_
          rintro _ w114 ⟨rfl, hS114⟩
          clear hSf112
          refine S.isTD (d := 114) rfl (by exact bytes_same hby hf96.1 hf96.2 hW96 (by omega)) ?_
          refine S.pickT rfl rfl ?_
          refine S.assignT rfl ?_
          refine WS.done ?_
          refine WR.ret (ret1 rfl rfl ?_)
          first | exact ⟨rfl, hS114.drop.drop.drop.drop.weak (hR18.trans (hR20.trans (hR23.trans hR112)))⟩ | exact ⟨rfl, hS114.drop.drop.drop.drop.weak (hR18.trans (hR20.trans hR23))⟩
  ·
    skip
    refine S.off rfl ?_
    refine S.off rfl ?_
    refine S.pickFC rfl rfl ?_
    refine WS.done ?_
    refine WR.condF rfl ?_
    refine WR.exit ?_
    refine WR.seq ?_
    refine WR.seq ?_
    refine WR.region rfl ?_
    refine S.fieldB Try.underlying24 rfl ti2 rfl rfl rfl rfl ?_
    refine S.loadB (i := 2) hS1001 rfl Try.underlying2 rfl rfl rfl rfl ?_
    refine S.lss rfl rfl rfl ?_
    refine S.fieldB Try.underlying24 rfl ti2 rfl rfl rfl rfl ?_
    refine S.loadB (i := 1) hS1001 rfl Try.underlying2 rfl rfl rfl rfl ?_
    refine S.lss rfl rfl rfl ?_
    refine S.eqlB Try.underlying4 rfl rfl rfl ?_
    refine S.moveT rfl ?_
    refine S.splitB (d := 87) rfl (fun c87 => ?_) (fun c87 => ?_)
    ·
      skip
      refine S.moveT rfl ?_
      refine S.loadBA (i := 2) hS1001 rfl Try.underlying24 rfl ti24 rfl rfl rfl rfl ?_
      refine S.loadBA (i := 1) hS1001 rfl Try.underlying24 rfl ti24 rfl rfl rfl rfl ?_
      refine S.call ent17 rfl (w_cmp hS1001 (by exact hal) (by exact hbl)) rfl ?_
      rintro _ w91 ⟨rfl, hS91⟩
      clear hS1001
      refine S.neq rfl rfl rfl ?_
      refine S.isFD (d := 92) rfl (by have hq := hL.fin (by omega) (by omega) (by omega); have hi2 : ah < 0 ↔ bh < 0 := (by simpa using c87); omega) ?_
      refine S.pickT rfl rfl ?_
      refine WS.done ?_
      refine WR.condF rfl ?_
      refine WR.skip ?_
      refine WR.seq ?_
      refine WR.region rfl ?_
      refine S.moveT rfl ?_
      refine S.call ent32 rfl (w_wback hS91 (by exact h2) (by exact hby)) rfl ?_
      rintro _ w96 ⟨h96, l96, rfl, hf96, hW96, hS96⟩
      clear hS91
      refine S.moveT rfl ?_
      refine S.extract rfl rfl rfl ?_
      refine S.extract rfl rfl rfl ?_
      refine S.alloc hS96 ti24 rfl rfl ?_
      intro b13 w13 hS13; clear hS96
      refine S.storeB (i := 0) hS13 rfl ti24 rfl rfl rfl rfl rfl rfl rfl rfl ?_
      intro w2008 hS2008; clear hS13
      refine S.assignT rfl ?_
      refine WS.done ?_
      refine WR.seq ?_
      refine WR.seq ?_
      refine WR.region rfl ?_
      refine S.moveT rfl ?_
      refine S.lenSl Try.underlying59 rfl rfl ?_
      refine S.neq rfl rfl rfl ?_
      refine WS.done ?_
      refine WR.condD rfl (fun c101 => ?_) (fun c101 => ?_)
      ·
        skip
        refine WR.seq ?_
        refine WR.region rfl ?_
        refine S.moveT rfl ?_
        refine S.isFD (p := xs.length = 16) (d := 102) rfl (by omega) ?_
        refine S.not rfl rfl ?_
        refine S.moveT rfl ?_
        refine S.loadBA (i := 0) hS2008 rfl Try.underlying24 rfl ti24 rfl rfl rfl rfl ?_
        refine S.buildZero ti24 rfl (by kernel_rfl) rfl ?_
        refine S.eqlS rfl rfl (by kernel_rfl) (Eq1.struct Try.underlying24 (by kernel_rfl) (EqF.cons (by decide) (Part1.one Try.underlying2 rfl rfl) (Part1.one Try.underlying2 rfl rfl) (Eq1.int Try.underlying2) (EqF.one (by decide) (Part1.one Try.underlying22 rfl rfl) (Part1.one Try.underlying22 rfl rfl) (Eq1.int Try.underlying22)))) rfl ?_
        refine S.isTD (d := 107) rfl (by omega) ?_
        refine S.pickT rfl rfl ?_
        refine S.assignT rfl ?_
        refine WS.done ?_
        refine WR.ret (ret1 rfl rfl ?_)
        first | exact ⟨rfl, hS2008.drop.drop.drop.drop.weak (hR18.trans (hR20.trans (hR23.trans hR112)))⟩ | exact ⟨rfl, hS2008.drop.drop.drop.drop.weak (hR18.trans (hR20.trans hR23))⟩
      ·
        skip
        refine WR.skip ?_
        refine WR.seq ?_
        refine WR.region rfl ?_
        refine S.moveT rfl ?_
        refine S.moveT rfl ?_
        refine S.isTD (p := xs.length = 16) (d := 110) rfl (by omega) ?_
        refine S.loadBA (i := 0) hS2008 rfl Try.underlying24 rfl ti24 rfl rfl rfl rfl ?_
        refine S.call ent31 rfl (w_bytes hS2008 (by exact hf96.1) (by exact hf96.2)) rfl ?_
        rintro v112 w112 hS112
        clear hS2008
        obtain ⟨R112, hR112, hro112, hSf112⟩ := hS112.freeze (fun _ _ => rfl)
        replace h2 := h2.mono hR112
        replace hro18 := hro18.mono hR112
        replace hro20 := hro20.mono hR112
        replace hro23 := hro23.mono hR112
        refine S.moveT rfl ?_
        refine S.call ent34 rfl (r_sameBytes hSf112 (by exact hro112) (by exact h2) (by rw [List.length_append, bw_len, bw_len]; decide)) rfl ?_
        rintro _ w114 ⟨rfl, hS114⟩
        clear hSf112
        refine S.isTD (d := 114) rfl (by exact bytes_same hby hf96.1 hf96.2 hW96 (by omega)) ?_
        refine S.pickT rfl rfl ?_
        refine S.assignT rfl ?_
        refine WS.done ?_
        refine WR.ret (ret1 rfl rfl ?_)
        first | exact ⟨rfl, hS114.drop.drop.drop.drop.weak (hR18.trans (hR20.trans (hR23.trans hR112)))⟩ | exact ⟨rfl, hS114.drop.drop.drop.drop.weak (hR18.trans (hR20.trans hR23))⟩
    ·
      skip
      refine S.off rfl ?_
      refine S.off rfl ?_
      refine S.off rfl ?_
      refine S.off rfl ?_
      refine S.off rfl ?_
      refine S.pickFC rfl rfl ?_
      refine WS.done ?_
      refine WR.condF rfl ?_
      refine WR.skip ?_
      refine WR.seq ?_
      refine WR.region rfl ?_
      refine S.moveT rfl ?_
      refine S.call ent32 rfl (w_wback hS1001 (by exact h2) (by exact hby)) rfl ?_
      rintro _ w96 ⟨h96, l96, rfl, hf96, hW96, hS96⟩
      clear hS1001
      refine S.moveT rfl ?_
      refine S.extract rfl rfl rfl ?_
      refine S.extract rfl rfl rfl ?_
      refine S.alloc hS96 ti24 rfl rfl ?_
      intro b13 w13 hS13; clear hS96
      refine S.storeB (i := 0) hS13 rfl ti24 rfl rfl rfl rfl rfl rfl rfl rfl ?_
      intro w2009 hS2009; clear hS13
      refine S.assignT rfl ?_
      refine WS.done ?_
      refine WR.seq ?_
      refine WR.seq ?_
      refine WR.region rfl ?_
      refine S.moveT rfl ?_
      refine S.lenSl Try.underlying59 rfl rfl ?_
      refine S.neq rfl rfl rfl ?_
      refine WS.done ?_
      refine WR.condD rfl (fun c101 => ?_) (fun c101 => ?_)
      ·
        skip
        refine WR.seq ?_
        refine WR.region rfl ?_
        refine S.moveT rfl ?_
        refine S.isFD (p := xs.length = 16) (d := 102) rfl (by omega) ?_
        refine S.not rfl rfl ?_
        refine S.moveT rfl ?_
        refine S.loadBA (i := 0) hS2009 rfl Try.underlying24 rfl ti24 rfl rfl rfl rfl ?_
        refine S.buildZero ti24 rfl (by kernel_rfl) rfl ?_
        refine S.eqlS rfl rfl (by kernel_rfl) (Eq1.struct Try.underlying24 (by kernel_rfl) (EqF.cons (by decide) (Part1.one Try.underlying2 rfl rfl) (Part1.one Try.underlying2 rfl rfl) (Eq1.int Try.underlying2) (EqF.one (by decide) (Part1.one Try.underlying22 rfl rfl) (Part1.one Try.underlying22 rfl rfl) (Eq1.int Try.underlying22)))) rfl ?_
        refine S.isTD (d := 107) rfl (by omega) ?_
        refine S.pickT rfl rfl ?_
        refine S.assignT rfl ?_
        refine WS.done ?_
        refine WR.ret (ret1 rfl rfl ?_)
        first | exact ⟨rfl, hS2009.drop.drop.drop.drop.weak (hR18.trans (hR20.trans (hR23.trans hR112)))⟩ | exact ⟨rfl, hS2009.drop.drop.drop.drop.weak (hR18.trans (hR20.trans hR23))⟩
      ·
        skip
        refine WR.skip ?_
        refine WR.seq ?_
        refine WR.region rfl ?_
        refine S.moveT rfl ?_
        refine S.moveT rfl ?_
        refine S.isTD (p := xs.length = 16) (d := 110) rfl (by omega) ?_
        refine S.loadBA (i := 0) hS2009 rfl Try.underlying24 rfl ti24 rfl rfl rfl rfl ?_
        refine S.call ent31 rfl (w_bytes hS2009 (by exact hf96.1) (by exact hf96.2)) rfl ?_
        rintro v112 w112 hS112
        clear hS2009
        obtain ⟨R112, hR112, hro112, hSf112⟩ := hS112.freeze (fun _ _ => rfl)
        replace h2 := h2.mono hR112
        replace hro18 := hro18.mono hR112
        replace hro20 := hro20.mono hR112
        replace hro23 := hro23.mono hR112
        refine S.moveT rfl ?_
        refine S.call ent34 rfl (r_sameBytes hSf112 (by exact hro112) (by exact h2) (by rw [List.length_append, bw_len, bw_len]; decide)) rfl ?_
        rintro _ w114 ⟨rfl, hS114⟩
        clear hSf112
        refine S.isTD (d := 114) rfl (by exact bytes_same hby hf96.1 hf96.2 hW96 (by omega)) ?_
        refine S.pickT rfl rfl ?_
        refine S.assignT rfl ?_
        refine WS.done ?_
        refine WR.ret (ret1 rfl rfl ?_)
        first | exact ⟨rfl, hS114.drop.drop.drop.drop.weak (hR18.trans (hR20.trans (hR23.trans hR112)))⟩ | exact ⟨rfl, hS114.drop.drop.drop.drop.weak (hR18.trans (hR20.trans hR23))⟩


end Go.Proofs.Ytnfideifgegijaa.B

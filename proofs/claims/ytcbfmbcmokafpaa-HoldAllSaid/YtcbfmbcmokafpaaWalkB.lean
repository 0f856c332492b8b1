import Derived.Test.YtcbfmbcmokafpaaWalkA
namespace Go.Proofs.Ytcbfmbcmokafpaa.B
open Go.Proofs Go.RowKit
set_option linter.unusedVariables false
set_option linter.unusedSimpArgs false
theorem allT {α : Type} {p : α → Prop} {xs : List α} {i : Nat} {u : α} (h : ∀ x ∈ xs.take i, p x) (hu : xs[i]? = some u) (hc : p u) : ∀ x ∈ xs.take (i + 1), p x := by
  intro x hx
  rw [List.take_add_one, hu] at hx
  rcases List.mem_append.1 hx with hx | hx
  · exact h x hx
  · simp at hx; subst hx; exact hc
theorem isSome_mem {m : List (Int × Int)} {p : Int × Int} {k : Int} (h : p ∈ m) (hk : p.1 = k) : (aget m k).isSome = true := by
  cases hg : aget m k with
  | none => exact absurd hk (aget_none.1 hg p h)
  | some u => rfl
theorem rise_le {m : List (Int × Int)} (hr : m.Pairwise (fun a b => a.1 < b.1)) {i j : Nat} {u v : Int × Int} (hij : i ≤ j) (hi : m[i]? = some u) (hj : m[j]? = some v) : u.1 ≤ v.1 := by
  rcases Nat.eq_or_lt_of_le hij with rfl | hlt
  · rw [hi] at hj; cases hj; exact Int.le_refl _
  · have h1 := (List.getElem?_eq_some_iff.1 hi)
    have h2 := (List.getElem?_eq_some_iff.1 hj)
    have := List.pairwise_iff_getElem.1 hr i j h1.1 h2.1 hlt
    rw [h1.2, h2.2] at this
    exact Int.le_of_lt this
set_option maxRecDepth 100000 in
set_option maxHeartbeats 4000000 in
theorem r_has {w : World} {R : Kn} {L : List HP} {n mo : Int} {m : List (Int × Int)} {bh : Nat} {vr : Value} (hS : St w R (blk bh (.cells (#[.int .i64 n, .int .i64 mo, vr]) 44 (0, 0)) :: L)) {key : Int} (h0 : Ro R gpE 2 vr m) (hl : m.length ≤ 1000000) :
    Fn Try.prog 22 #[.pointer (some ⟨bh, 0, none⟩), .int .i64 key] w (fun v w' => v = .bool (aget m key).isSome ∧ St w' R (blk bh (.cells (#[.int .i64 n, .int .i64 mo, vr]) 44 (0, 0)) :: L)) := by
  obtain ⟨a0, c0, rfl, hl0⟩ := h0.len
  refine Fn.intro (n := 25) Try.func22 rfl rfl rfl ?_
  refine WR.seq ?_
  refine WR.region rfl ?_
  refine S.assignC rfl ?_
  refine WS.done ?_
  refine WR.seq ?_
  refine WR.seq ?_
  refine WR.region rfl ?_
  refine S.assignC rfl ?_
  refine WS.done ?_
  refine WR.block ?_
  refine WR.loopE (fun rq mm rr wr => ∃ (i : Nat), mm = m.length - i ∧ (i ≤ m.length ∧ ∀ p ∈ m.take i, p.1 ≠ key) ∧ rr 5 = .int .i64 (i : Int) ∧ Agr [0, 1] rr rq ∧ St wr R (blk bh (.cells (#[.int .i64 n, .int .i64 mo, .slice a0 m.length c0]) 44 (0, 0)) :: L)) ⟨0, rfl, (by exact ⟨by omega, fun p hp => by simp at hp⟩), rfl, ⟨rfl, rfl, trivial⟩, hS⟩ ?_
  rintro mm rr w1001 ⟨i, hm1001, ⟨hi, hall⟩, hr1001_5, hA1001, hS1001⟩
  obtain ⟨rr, rfl⟩ := agrBack hA1001
  clear hA1001
  obtain ⟨rr, rfl⟩ := back1 (r := rr) hr1001_5
  clear hr1001_5
  refine WR.seq ?_
  refine WR.seq ?_
  refine WR.region rfl ?_
  refine S.moveT rfl ?_
  refine S.moveT rfl ?_
  refine S.nilCheck rfl rfl ?_
  refine S.fieldB Try.underlying44 rfl ti42 rfl rfl rfl rfl ?_
  refine S.loadB (i := 0) hS1001 rfl Try.underlying42 rfl rfl rfl rfl ?_
  refine S.lenSl Try.underlying42 rfl rfl ?_
  refine S.lss rfl rfl rfl ?_
  refine WS.done ?_
  refine WR.condD rfl (fun c12 => ?_) (fun c12 => ?_)
  ·
    skip
    refine WR.skip ?_
    refine WR.seq ?_
    refine WR.block ?_
    refine WR.seq ?_
    refine WR.region rfl ?_
    refine S.moveT rfl ?_
    refine S.nilCheck rfl rfl ?_
    refine S.fieldB Try.underlying44 rfl ti42 rfl rfl rfl rfl ?_
    refine S.loadB (i := 0) hS1001 rfl Try.underlying42 rfl rfl rfl rfl ?_
    refine S.moveT rfl ?_
    refine S.indexRo h0 Try.underlying42 ti56 rfl rfl (by omega) rfl ?_
    intro ad20 u20 hu20 hl20 hc20
    refine S.fieldElt Try.underlying56 rfl ti2 rfl rfl rfl ?_
    refine S.loadRoF hS1001 hc20 rfl Try.underlying2 rfl rfl rfl ?_
    refine S.moveT rfl ?_
    refine S.eql rfl rfl rfl ?_
    refine WS.done ?_
    refine WR.condD rfl (fun c24 => ?_) (fun c24 => ?_)
    ·
      skip
      refine WR.seq ?_
      refine WR.region rfl ?_
      refine S.assignC rfl ?_
      refine WS.done ?_
      refine WR.ret (ret1 rfl rfl ?_)
      exact ⟨congrArg Value.bool (isSome_mem (List.mem_of_getElem? hu20) c24).symm, hS1001⟩
    ·
      skip
      refine WR.skip ?_
      refine WR.region rfl ?_
      refine S.moveT rfl ?_
      first
        | refine S.addN rfl rfl rfl (by omega) ?_
        | refine S.add rfl rfl rfl ?_
      refine S.assignT rfl ?_
      refine WS.done ?_
      exact ⟨_, (by omega), ⟨i + 1, rfl, (by exact ⟨by omega, allT hall (getI hu20) c24⟩), rfl, ⟨rfl, rfl, trivial⟩, hS1001⟩⟩
  ·
    skip
    refine WR.exit ?_
    refine WR.seq ?_
    refine WR.region rfl ?_
    refine S.assignC rfl ?_
    refine WS.done ?_
    refine WR.ret (ret1 rfl rfl ?_)
    rw [List.take_of_length_le (by omega)] at hall
    exact ⟨by rw [aget_none.2 hall]; rfl, hS1001⟩

set_option maxRecDepth 100000 in
set_option maxHeartbeats 4000000 in
theorem r_put {w : World} {R : Kn} {L : List HP} {n mo : Int} {m : List (Int × Int)} {bh : Nat} {vr : Value} (hS : St w R (blk bh (.cells (#[.int .i64 n, .int .i64 mo, vr]) 44 (0, 0)) :: L)) {k x : Int} (h0 : Ro R gpE 2 vr m) (hl : m.length ≤ 1000000) (hr : m.Pairwise (fun a b => a.1 < b.1)) (hg : aget m k = none) :
    Fn Try.prog 23 #[.pointer (some ⟨bh, 0, none⟩), .agg #[.int .i64 k, .int .i64 x]] w (fun v w' => ∃ R' vr', R.le R' ∧ Ro R' gpE 2 vr' (aput m k x) ∧ St w' R' (blk bh (.cells (#[.int .i64 n, .int .i64 mo, vr']) 44 (0, 0)) :: L)) := by
  obtain ⟨a0, c0, rfl, hl0⟩ := h0.len
  refine Fn.intro (n := 74) Try.func23 rfl rfl rfl ?_
  refine WR.seq ?_
  refine WR.region rfl ?_
  refine S.box hS rfl rfl rfl ?_
  intro b3 w3 hS3; clear hS
  refine WS.done ?_
  refine WR.seq ?_
  refine WR.region rfl ?_
  refine S.moveT rfl ?_
  refine S.nilCheck rfl rfl ?_
  refine S.fieldB Try.underlying44 rfl ti42 rfl rfl rfl rfl ?_
  refine S.loadB (i := 1) hS3 rfl Try.underlying42 rfl rfl rfl rfl ?_
  refine S.lenSl Try.underlying42 rfl rfl ?_
  refine S.assignT rfl ?_
  refine WS.done ?_
  refine WR.cutE (J := fun rq rr wr => ∃ (vo : Value), (True) ∧ Agr [0, 4] rr rq ∧ St wr R (Ow 56 gpE 2 vo (m ++ [(k, x)]) :: blk bh (.cells (#[.int .i64 n, .int .i64 mo, vo]) 44 (0, 0)) :: blk b3 (.cells (#[.int .i64 k, .int .i64 x]) 56 (0, 0)) :: L)) ?_ ?_
  ·
    skip
    refine WR.regionW (fun j => Nat.beq j 12) 13 rfl mixed hS3 ?_
    intro w6002 hS6002; clear hS3; have hC := hS6002
    refine WA.take (fuel := 12) 0 rfl (by kernel_rfl) (by kernel_rfl) (by kernel_rfl) (by kernel_rfl) rfl rfl hC ?_
    refine Q.moveT rfl ?_
    refine WQ.done ?_
    refine WA.take (fuel := 11) 2 rfl (by kernel_rfl) (by kernel_rfl) (by kernel_rfl) (by kernel_rfl) rfl rfl hC ?_
    refine Q.moveT rfl ?_
    refine WQ.done ?_
    refine WA.take (fuel := 10) 3 rfl (by kernel_rfl) (by kernel_rfl) (by kernel_rfl) (by kernel_rfl) rfl rfl hC ?_
    refine Q.nilCheck rfl rfl ?_
    refine WQ.done ?_
    refine WA.take (fuel := 9) 4 rfl (by kernel_rfl) (by kernel_rfl) (by kernel_rfl) (by kernel_rfl) rfl rfl hC ?_
    refine Q.fieldB Try.underlying44 rfl ti42 rfl rfl rfl rfl ?_
    refine WQ.done ?_
    refine WA.take (fuel := 8) 5 rfl (by kernel_rfl) (by kernel_rfl) (by kernel_rfl) (by kernel_rfl) rfl rfl hC ?_
    refine Q.loadB (i := 1) rfl Try.underlying42 rfl rfl rfl rfl ?_
    refine WQ.done ?_
    refine WA.take (fuel := 7) 7 rfl (by kernel_rfl) (by kernel_rfl) (by kernel_rfl) (by kernel_rfl) rfl rfl hC ?_
    refine Q.loadBA (i := 0) rfl Try.underlying56 rfl ti56 rfl rfl rfl rfl ?_
    refine WQ.done ?_
    refine WA.two (fuel := 6) 1 8 rfl rfl (by kernel_rfl) rfl ?_ ?_
    ·
      skip
      first
        | refine S.buildRow (vs := []) hS6002 Try.underlying42 ti56 rfl rfl rfl rfl rfl rfl rfl ?_
        | refine S.buildRow hS6002 Try.underlying42 ti56 rfl rfl rfl rfl rfl rfl rfl ?_
      intro b11 w11 hS11; clear hS6002
      have hSo := hS11.ownRow (enc := gpE) (n := 2) [] rfl (fun _ h => by cases h) (by simp)
      refine WS.done ⟨fun _ => hSo.drop, ?_⟩
      replace hC := hSo.drop
      refine WA.two (fuel := 5) 6 8 rfl rfl (by kernel_rfl) rfl ?_ ?_
      ·
        skip
        refine S.appendRo (i := 0) hSo rfl h0 Try.underlying42 ti56 rfl rfl rfl rfl gpE_one (by simp; omega) rfl ?_
        intro v16 w16 hS16; clear hSo
        refine WS.done ⟨fun _ => hS16.drop, ?_⟩
        replace hC := hS16.drop
        refine WA.one (fuel := 4) 8 rfl (by kernel_rfl) rfl ?_
        first
          | refine S.buildRow (vs := [.agg _]) hS16 Try.underlying42 ti56 rfl rfl rfl rfl rfl rfl rfl ?_
          | refine S.buildRow hS16 Try.underlying42 ti56 rfl rfl rfl rfl rfl rfl rfl ?_
        intro b18 w18 hS18; clear hS16
        refine WS.done ⟨fun _ => hS18.drop.drop, ?_⟩
        replace hC := hS18.drop.drop
        refine WA.one (fuel := 3) 9 rfl (by kernel_rfl) rfl ?_
        refine S.appendTmp (i := 0) [(k, x)] hS18 rfl rfl (fun _ _ => rfl) Try.underlying42 ti56 rfl rfl rfl rfl gpE_one (by simp; omega) rfl ?_
        intro v19 w19 hS19; clear hS18
        obtain ⟨av, cv, rfl⟩ := hS19.rowLen
        refine WS.done ⟨fun _ => hS19.drop, ?_⟩
        replace hC := hS19.drop
        refine WA.one (fuel := 2) 10 rfl (by kernel_rfl) rfl ?_
        refine S.nilCheck rfl rfl ?_
        refine WS.done ⟨fun _ => hS19.drop, ?_⟩
        replace hC := hS19.drop
        refine WA.take (fuel := 1) 11 rfl (by kernel_rfl) (by kernel_rfl) (by kernel_rfl) (by kernel_rfl) rfl rfl hC ?_
        refine Q.fieldB Try.underlying44 rfl ti42 rfl rfl rfl rfl ?_
        refine WQ.done ?_
        refine WA.one (fuel := 0) 12 rfl (by kernel_rfl) rfl ?_
        refine S.storeB (i := 2) hS19 rfl ti42 rfl rfl rfl rfl rfl rfl rfl rfl ?_
        intro w2003 hS2003; clear hS19
        refine WS.done ⟨fun h => absurd h (by decide), ?_⟩
        refine WA.done (by kernel_rfl) ?_
        clear hC
        exact ⟨_, (by trivial), ⟨rfl, rfl, trivial⟩, (((hS2003.at_ (i := 1) rfl).at_ (i := 2) rfl).at_ (i := 2) rfl)⟩
      ·
        skip
        first
          | refine S.buildRow (vs := [.agg _]) hSo Try.underlying42 ti56 rfl rfl rfl rfl rfl rfl rfl ?_
          | refine S.buildRow hSo Try.underlying42 ti56 rfl rfl rfl rfl rfl rfl rfl ?_
        intro b18 w18 hS18; clear hSo
        refine WS.done ⟨fun _ => hS18.drop.drop, ?_⟩
        replace hC := hS18.drop.drop
        refine WA.one (fuel := 4) 6 rfl (by kernel_rfl) rfl ?_
        refine S.appendRo (i := 1) hS18 rfl h0 Try.underlying42 ti56 rfl rfl rfl rfl gpE_one (by simp; omega) rfl ?_
        intro v16 w16 hS16; clear hS18
        refine WS.done ⟨fun _ => hS16.drop.drop, ?_⟩
        replace hC := hS16.drop.drop
        refine WA.one (fuel := 3) 9 rfl (by kernel_rfl) rfl ?_
        refine S.appendTmp (i := 0) [(k, x)] hS16 rfl rfl (fun _ _ => rfl) Try.underlying42 ti56 rfl rfl rfl rfl gpE_one (by simp; omega) rfl ?_
        intro v19 w19 hS19; clear hS16
        obtain ⟨av, cv, rfl⟩ := hS19.rowLen
        refine WS.done ⟨fun _ => hS19.drop, ?_⟩
        replace hC := hS19.drop
        refine WA.one (fuel := 2) 10 rfl (by kernel_rfl) rfl ?_
        refine S.nilCheck rfl rfl ?_
        refine WS.done ⟨fun _ => hS19.drop, ?_⟩
        replace hC := hS19.drop
        refine WA.take (fuel := 1) 11 rfl (by kernel_rfl) (by kernel_rfl) (by kernel_rfl) (by kernel_rfl) rfl rfl hC ?_
        refine Q.fieldB Try.underlying44 rfl ti42 rfl rfl rfl rfl ?_
        refine WQ.done ?_
        refine WA.one (fuel := 0) 12 rfl (by kernel_rfl) rfl ?_
        refine S.storeB (i := 2) hS19 rfl ti42 rfl rfl rfl rfl rfl rfl rfl rfl ?_
        intro w2004 hS2004; clear hS19
        refine WS.done ⟨fun h => absurd h (by decide), ?_⟩
        refine WA.done (by kernel_rfl) ?_
        clear hC
        exact ⟨_, (by trivial), ⟨rfl, rfl, trivial⟩, (((hS2004.at_ (i := 1) rfl).at_ (i := 2) rfl).at_ (i := 2) rfl)⟩
    ·
      skip
      first
        | refine S.buildRow (vs := [.agg _]) hS6002 Try.underlying42 ti56 rfl rfl rfl rfl rfl rfl rfl ?_
        | refine S.buildRow hS6002 Try.underlying42 ti56 rfl rfl rfl rfl rfl rfl rfl ?_
      intro b18 w18 hS18; clear hS6002
      refine WS.done ⟨fun _ => hS18.drop, ?_⟩
      replace hC := hS18.drop
      refine WA.one (fuel := 5) 1 rfl (by kernel_rfl) rfl ?_
      first
        | refine S.buildRow (vs := []) hS18 Try.underlying42 ti56 rfl rfl rfl rfl rfl rfl rfl ?_
        | refine S.buildRow hS18 Try.underlying42 ti56 rfl rfl rfl rfl rfl rfl rfl ?_
      intro b11 w11 hS11; clear hS18
      have hSo := hS11.ownRow (enc := gpE) (n := 2) [] rfl (fun _ h => by cases h) (by simp)
      refine WS.done ⟨fun _ => hSo.drop.drop, ?_⟩
      replace hC := hSo.drop.drop
      refine WA.one (fuel := 4) 6 rfl (by kernel_rfl) rfl ?_
      refine S.appendRo (i := 0) hSo rfl h0 Try.underlying42 ti56 rfl rfl rfl rfl gpE_one (by simp; omega) rfl ?_
      intro v16 w16 hS16; clear hSo
      refine WS.done ⟨fun _ => hS16.drop.drop, ?_⟩
      replace hC := hS16.drop.drop
      refine WA.one (fuel := 3) 9 rfl (by kernel_rfl) rfl ?_
      have hSq5 := ((((hS16.at_ (i := 3) rfl).at_ (i := 3) rfl).at_ (i := 2) rfl).at_ (i := 3) rfl)
      refine S.appendTmp (i := 0) [(k, x)] hSq5 rfl rfl (fun _ _ => rfl) Try.underlying42 ti56 rfl rfl rfl rfl gpE_one (by simp; omega) rfl ?_
      intro v19 w19 hS19; clear hSq5
      obtain ⟨av, cv, rfl⟩ := hS19.rowLen
      refine WS.done ⟨fun _ => hS19.drop, ?_⟩
      replace hC := hS19.drop
      refine WA.one (fuel := 2) 10 rfl (by kernel_rfl) rfl ?_
      refine S.nilCheck rfl rfl ?_
      refine WS.done ⟨fun _ => hS19.drop, ?_⟩
      replace hC := hS19.drop
      refine WA.take (fuel := 1) 11 rfl (by kernel_rfl) (by kernel_rfl) (by kernel_rfl) (by kernel_rfl) rfl rfl hC ?_
      refine Q.fieldB Try.underlying44 rfl ti42 rfl rfl rfl rfl ?_
      refine WQ.done ?_
      refine WA.one (fuel := 0) 12 rfl (by kernel_rfl) rfl ?_
      refine S.storeB (i := 2) hS19 rfl ti42 rfl rfl rfl rfl rfl rfl rfl rfl ?_
      intro w2006 hS2006; clear hS19
      refine WS.done ⟨fun h => absurd h (by decide), ?_⟩
      refine WA.done (by kernel_rfl) ?_
      clear hC
      exact ⟨_, (by trivial), ⟨rfl, rfl, trivial⟩, (((hS2006.at_ (i := 1) rfl).at_ (i := 2) rfl).at_ (i := 2) rfl)⟩
  ·
    skip
    rintro rr w8001 ⟨vo, -, hA8001, hS8001⟩
    obtain ⟨rr, rfl⟩ := agrBack hA8001
    clear hA8001
    clear hS3
    refine WR.block ?_
    refine WR.loopE (fun rq mm rr wr => ∃ (j : Nat), mm = j ∧ (j ≤ m.length ∧ ∀ i u, j ≤ i → m[i]? = some u → k < u.1) ∧ rr 4 = .int .i64 (j : Int) ∧ Agr [0] rr rq ∧ St wr R (Ow 56 gpE 2 vo (insL m j (k, x)) :: blk bh (.cells (#[.int .i64 n, .int .i64 mo, vo]) 44 (0, 0)) :: blk b3 (.cells (#[.int .i64 k, .int .i64 x]) 56 (0, 0)) :: L)) ⟨m.length, rfl, (by exact ⟨Nat.le_refl _, fun i u h1 h2 => by have := (List.getElem?_eq_some_iff.1 h2).1; omega⟩), rfl, ⟨rfl, trivial⟩, (by rw [insL_end]; exact hS8001)⟩ ?_
    rintro mm rr w1001 ⟨j, hm1001, ⟨hj, hgt⟩, hr1001_4, hA1001, hS1001⟩
    obtain ⟨rr, rfl⟩ := agrBack hA1001
    clear hA1001
    obtain ⟨rr, rfl⟩ := back1 (r := rr) hr1001_4
    clear hr1001_4
    have hil := insL_len (p := (k, x)) hj
    refine WR.seq ?_
    refine WR.seq ?_
    refine WR.regionQ mixed hS1001 (by kernel_rfl) rfl ?_
    refine Q.moveT rfl ?_
    refine Q.gtr rfl rfl rfl ?_
    refine Q.moveT rfl ?_
    refine Q.splitD (d := 24) rfl (fun c24 => ?_) (fun c24 => ?_)
    ·
      skip
      refine Q.moveT rfl ?_
      refine Q.nilCheck rfl rfl ?_
      refine Q.fieldB Try.underlying44 rfl ti42 rfl rfl rfl rfl ?_
      refine Q.loadB (i := 1) rfl Try.underlying42 rfl rfl rfl rfl ?_
      refine Q.moveT rfl ?_
      first
        | refine Q.subN rfl rfl rfl (by omega) ?_
        | refine Q.sub rfl rfl rfl ?_
      refine Q.indexOwN (i := 0) rfl Try.underlying42 ti56 rfl rfl (by omega) rfl ?_
      refine Q.fieldElt Try.underlying56 rfl ti2 rfl rfl rfl ?_
      refine Q.loadOwF (i := 0) rfl (fun _ _ => rfl) Try.underlying2 rfl rfl ((insL_lo hj (by omega)).trans (List.getElem?_eq_getElem (by omega))) rfl rfl ?_
      refine Q.moveT rfl ?_
      refine Q.nilCheck rfl rfl ?_
      refine Q.fieldB Try.underlying44 rfl ti42 rfl rfl rfl rfl ?_
      refine Q.loadB (i := 1) rfl Try.underlying42 rfl rfl rfl rfl ?_
      refine Q.moveT rfl ?_
      refine Q.indexOwN (i := 0) rfl Try.underlying42 ti56 rfl rfl (by omega) rfl ?_
      refine Q.fieldElt Try.underlying56 rfl ti2 rfl rfl rfl ?_
      refine Q.loadOwF (i := 0) rfl (fun _ _ => rfl) Try.underlying2 rfl rfl (insL_at hj) rfl rfl ?_
      refine Q.gtr rfl rfl rfl ?_
      refine Q.pickT rfl rfl ?_
      refine WQ.done ?_
      intro w5007 hS5007
      clear hS1001
      refine WR.condD rfl (fun c43 => ?_) (fun c43 => ?_)
      ·
        skip
        refine WR.skip ?_
        refine WR.block ?_
        refine WR.seq ?_
        obtain ⟨j, rfl⟩ : ∃ q, j = q + 1 := ⟨j - 1, by omega⟩
        have hmj : m[j]? = some m[j] := List.getElem?_eq_getElem (by omega)
        have hmk : k < m[j].1 := by
          have e9 : (((j + 1 : Nat) : Int) - 1).toNat = j := by omega
          simp only [e9] at c43
          exact c43
        refine WR.regionW (fun j => Nat.beq j 27 || Nat.beq j 28 || Nat.beq j 29) 30 rfl mixed hS5007 ?_
        intro w6008 hS6008; clear hS5007; have hC := hS6008
        refine WA.take (fuel := 29) 0 rfl (by kernel_rfl) (by kernel_rfl) (by kernel_rfl) (by kernel_rfl) rfl rfl hC ?_
        refine Q.moveT rfl ?_
        refine WQ.done ?_
        refine WA.take (fuel := 28) 1 rfl (by kernel_rfl) (by kernel_rfl) (by kernel_rfl) (by kernel_rfl) rfl rfl hC ?_
        refine Q.nilCheck rfl rfl ?_
        refine WQ.done ?_
        refine WA.take (fuel := 27) 2 rfl (by kernel_rfl) (by kernel_rfl) (by kernel_rfl) (by kernel_rfl) rfl rfl hC ?_
        refine Q.fieldB Try.underlying44 rfl ti42 rfl rfl rfl rfl ?_
        refine WQ.done ?_
        refine WA.take (fuel := 26) 3 rfl (by kernel_rfl) (by kernel_rfl) (by kernel_rfl) (by kernel_rfl) rfl rfl hC ?_
        refine Q.loadB (i := 1) rfl Try.underlying42 rfl rfl rfl rfl ?_
        refine WQ.done ?_
        refine WA.take (fuel := 25) 4 rfl (by kernel_rfl) (by kernel_rfl) (by kernel_rfl) (by kernel_rfl) rfl rfl hC ?_
        refine Q.moveT rfl ?_
        refine WQ.done ?_
        refine WA.take (fuel := 24) 5 rfl (by kernel_rfl) (by kernel_rfl) (by kernel_rfl) (by kernel_rfl) rfl rfl hC ?_
        first
          | refine Q.subN rfl rfl rfl (by omega) ?_
          | refine Q.sub rfl rfl rfl ?_
        refine Q.as (d := 49) rfl (congrArg (Value.int .i64) (show _ = (j : Int) by omega)) ?_
        refine WQ.done ?_
        refine WA.take (fuel := 23) 11 rfl (by kernel_rfl) (by kernel_rfl) (by kernel_rfl) (by kernel_rfl) rfl rfl hC ?_
        refine Q.moveT rfl ?_
        refine WQ.done ?_
        refine WA.take (fuel := 22) 12 rfl (by kernel_rfl) (by kernel_rfl) (by kernel_rfl) (by kernel_rfl) rfl rfl hC ?_
        refine Q.nilCheck rfl rfl ?_
        refine WQ.done ?_
        refine WA.take (fuel := 21) 13 rfl (by kernel_rfl) (by kernel_rfl) (by kernel_rfl) (by kernel_rfl) rfl rfl hC ?_
        refine Q.fieldB Try.underlying44 rfl ti42 rfl rfl rfl rfl ?_
        refine WQ.done ?_
        refine WA.take (fuel := 20) 14 rfl (by kernel_rfl) (by kernel_rfl) (by kernel_rfl) (by kernel_rfl) rfl rfl hC ?_
        refine Q.loadB (i := 1) rfl Try.underlying42 rfl rfl rfl rfl ?_
        refine WQ.done ?_
        refine WA.take (fuel := 19) 15 rfl (by kernel_rfl) (by kernel_rfl) (by kernel_rfl) (by kernel_rfl) rfl rfl hC ?_
        refine Q.moveT rfl ?_
        refine WQ.done ?_
        refine WA.take (fuel := 18) 16 rfl (by kernel_rfl) (by kernel_rfl) (by kernel_rfl) (by kernel_rfl) rfl rfl hC ?_
        refine Q.indexOwN (i := 0) rfl Try.underlying42 ti56 rfl rfl (by omega) rfl ?_
        refine WQ.done ?_
        refine WA.take (fuel := 17) 17 rfl (by kernel_rfl) (by kernel_rfl) (by kernel_rfl) (by kernel_rfl) rfl rfl hC ?_
        refine Q.loadOwA (i := 0) rfl (fun _ _ => rfl) Try.underlying56 rfl ti56 rfl (insL_at hj) rfl ?_
        refine WQ.done ?_
        refine WA.takeP (fuel := 16) 6 rfl (by kernel_rfl) (by kernel_rfl) (by kernel_rfl) rfl rfl ?_
        refine Q.moveT rfl ?_
        refine WQ.done ?_
        refine WA.takeP (fuel := 15) 10 rfl (by kernel_rfl) (by kernel_rfl) (by kernel_rfl) rfl rfl ?_
        refine Q.moveT rfl ?_
        refine WQ.done ?_
        refine WA.takeP (fuel := 14) 18 rfl (by kernel_rfl) (by kernel_rfl) (by kernel_rfl) rfl rfl ?_
        refine Q.moveT rfl ?_
        refine WQ.done ?_
        refine WA.takeP (fuel := 13) 22 rfl (by kernel_rfl) (by kernel_rfl) (by kernel_rfl) rfl rfl ?_
        refine Q.moveT rfl ?_
        refine WQ.done ?_
        refine WA.takeP (fuel := 12) 23 rfl (by kernel_rfl) (by kernel_rfl) (by kernel_rfl) rfl rfl ?_
        first
          | refine Q.subN rfl rfl rfl (by omega) ?_
          | refine Q.sub rfl rfl rfl ?_
        refine Q.as (d := 67) rfl (congrArg (Value.int .i64) (show _ = (j : Int) by omega)) ?_
        refine WQ.done ?_
        refine WA.two (fuel := 11) 7 19 rfl rfl (by kernel_rfl) rfl ?_ ?_
        ·
          skip
          refine S.nilCheck rfl rfl ?_
          refine WS.done ⟨fun _ => hS6008, ?_⟩
          replace hC := hS6008
          refine WA.two (fuel := 10) 8 19 rfl rfl (by kernel_rfl) rfl ?_ ?_
          ·
            skip
            refine S.fieldB Try.underlying44 rfl ti42 rfl rfl rfl rfl ?_
            refine WS.done ⟨fun _ => hS6008, ?_⟩
            replace hC := hS6008
            refine WA.take (fuel := 9) 9 rfl (by kernel_rfl) (by kernel_rfl) (by kernel_rfl) (by kernel_rfl) rfl rfl hC ?_
            refine Q.loadB (i := 1) rfl Try.underlying42 rfl rfl rfl rfl ?_
            refine WQ.done ?_
            refine WA.one (fuel := 8) 19 rfl (by kernel_rfl) rfl ?_
            refine S.nilCheck rfl rfl ?_
            refine WS.done ⟨fun _ => hS6008, ?_⟩
            replace hC := hS6008
            refine WA.one (fuel := 7) 20 rfl (by kernel_rfl) rfl ?_
            refine S.fieldB Try.underlying44 rfl ti42 rfl rfl rfl rfl ?_
            refine WS.done ⟨fun _ => hS6008, ?_⟩
            replace hC := hS6008
            refine WA.take (fuel := 6) 21 rfl (by kernel_rfl) (by kernel_rfl) (by kernel_rfl) (by kernel_rfl) rfl rfl hC ?_
            refine Q.loadB (i := 1) rfl Try.underlying42 rfl rfl rfl rfl ?_
            refine WQ.done ?_
            refine WA.one (fuel := 5) 24 rfl (by kernel_rfl) rfl ?_
            refine S.indexOwN (i := 0) hS6008 rfl Try.underlying42 ti56 rfl rfl (by omega) rfl ?_
            refine WS.done ⟨fun _ => hS6008, ?_⟩
            replace hC := hS6008
            refine WA.take (fuel := 4) 25 rfl (by kernel_rfl) (by kernel_rfl) (by kernel_rfl) (by kernel_rfl) rfl rfl hC ?_
            refine Q.loadOwA (i := 0) rfl (fun _ _ => rfl) Try.underlying56 rfl ti56 rfl ((insL_lo hj (by omega)).trans (List.getElem?_eq_getElem (by omega))) rfl ?_
            refine WQ.done ?_
            refine WA.take (fuel := 3) 26 rfl (by kernel_rfl) (by kernel_rfl) (by kernel_rfl) (by kernel_rfl) rfl rfl hC ?_
            refine Q.indexOwN (i := 0) rfl Try.underlying42 ti56 rfl rfl (by omega) rfl ?_
            refine WQ.done ?_
            refine WA.one (fuel := 2) 27 rfl (by kernel_rfl) rfl ?_
            refine S.storeOwA (i := 0) (u := (k, x)) hS6008 rfl (fun _ _ => rfl) ti56 rfl (by omega) rfl rfl rfl rfl rfl ?_
            intro w2009 hS2009; clear hS6008
            refine WS.done ⟨fun h => absurd h (by decide), ?_⟩
            refine WA.one (fuel := 1) 28 rfl (by kernel_rfl) rfl ?_
            refine S.indexOwN (i := 0) hS2009 rfl Try.underlying42 ti56 rfl rfl (by rw [List.length_set]; omega) rfl ?_
            refine WS.done ⟨fun h => absurd h (by decide), ?_⟩
            refine WA.one (fuel := 0) 29 rfl (by kernel_rfl) rfl ?_
            refine S.storeOwA (i := 0) (u := m[j]) hS2009 rfl (fun _ _ => rfl) ti56 rfl (by rw [List.length_set]; omega) rfl rfl rfl rfl rfl ?_
            intro w2010 hS2010; clear hS2009
            refine WS.done ⟨fun h => absurd h (by decide), ?_⟩
            refine WA.done (by kernel_rfl) ?_
            clear hC
            refine WR.region rfl ?_
            refine S.moveT rfl ?_
            first
              | refine S.subN rfl rfl rfl (by omega) ?_
              | refine S.sub rfl rfl rfl ?_
            refine S.assignT rfl ?_
            refine WS.done ?_
            exact ⟨_, (by omega), ⟨j, rfl, (by exact ⟨by omega, fun i u h1 h2 => by
                      rcases Nat.eq_or_lt_of_le h1 with rfl | h1
                      · rw [hmj] at h2; cases h2; omega
                      · exact hgt i u h1 h2⟩), (by exact congrArg (Value.int .i64) (by omega)), ⟨rfl, trivial⟩, (by rw [← insL_swap hj hmj]; exact hS2010)⟩⟩
          ·
            skip
            refine S.nilCheck rfl rfl ?_
            refine WS.done ⟨fun _ => hS6008, ?_⟩
            replace hC := hS6008
            refine WA.two (fuel := 9) 8 20 rfl rfl (by kernel_rfl) rfl ?_ ?_
            ·
              skip
              refine S.fieldB Try.underlying44 rfl ti42 rfl rfl rfl rfl ?_
              refine WS.done ⟨fun _ => hS6008, ?_⟩
              replace hC := hS6008
              refine WA.take (fuel := 8) 9 rfl (by kernel_rfl) (by kernel_rfl) (by kernel_rfl) (by kernel_rfl) rfl rfl hC ?_
              refine Q.loadB (i := 1) rfl Try.underlying42 rfl rfl rfl rfl ?_
              refine WQ.done ?_
              refine WA.one (fuel := 7) 20 rfl (by kernel_rfl) rfl ?_
              refine S.fieldB Try.underlying44 rfl ti42 rfl rfl rfl rfl ?_
              refine WS.done ⟨fun _ => hS6008, ?_⟩
              replace hC := hS6008
              refine WA.take (fuel := 6) 21 rfl (by kernel_rfl) (by kernel_rfl) (by kernel_rfl) (by kernel_rfl) rfl rfl hC ?_
              refine Q.loadB (i := 1) rfl Try.underlying42 rfl rfl rfl rfl ?_
              refine WQ.done ?_
              refine WA.one (fuel := 5) 24 rfl (by kernel_rfl) rfl ?_
              refine S.indexOwN (i := 0) hS6008 rfl Try.underlying42 ti56 rfl rfl (by omega) rfl ?_
              refine WS.done ⟨fun _ => hS6008, ?_⟩
              replace hC := hS6008
              refine WA.take (fuel := 4) 25 rfl (by kernel_rfl) (by kernel_rfl) (by kernel_rfl) (by kernel_rfl) rfl rfl hC ?_
              refine Q.loadOwA (i := 0) rfl (fun _ _ => rfl) Try.underlying56 rfl ti56 rfl ((insL_lo hj (by omega)).trans (List.getElem?_eq_getElem (by omega))) rfl ?_
              refine WQ.done ?_
              refine WA.take (fuel := 3) 26 rfl (by kernel_rfl) (by kernel_rfl) (by kernel_rfl) (by kernel_rfl) rfl rfl hC ?_
              refine Q.indexOwN (i := 0) rfl Try.underlying42 ti56 rfl rfl (by omega) rfl ?_
              refine WQ.done ?_
              refine WA.one (fuel := 2) 27 rfl (by kernel_rfl) rfl ?_
              refine S.storeOwA (i := 0) (u := (k, x)) hS6008 rfl (fun _ _ => rfl) ti56 rfl (by omega) rfl rfl rfl rfl rfl ?_
              intro w2011 hS2011; clear hS6008
              refine WS.done ⟨fun h => absurd h (by decide), ?_⟩
              refine WA.one (fuel := 1) 28 rfl (by kernel_rfl) rfl ?_
              refine S.indexOwN (i := 0) hS2011 rfl Try.underlying42 ti56 rfl rfl (by rw [List.length_set]; omega) rfl ?_
              refine WS.done ⟨fun h => absurd h (by decide), ?_⟩
              refine WA.one (fuel := 0) 29 rfl (by kernel_rfl) rfl ?_
              refine S.storeOwA (i := 0) (u := m[j]) hS2011 rfl (fun _ _ => rfl) ti56 rfl (by rw [List.length_set]; omega) rfl rfl rfl rfl rfl ?_
              intro w2012 hS2012; clear hS2011
              refine WS.done ⟨fun h => absurd h (by decide), ?_⟩
              refine WA.done (by kernel_rfl) ?_
              clear hC
              refine WR.region rfl ?_
              refine S.moveT rfl ?_
              first
                | refine S.subN rfl rfl rfl (by omega) ?_
                | refine S.sub rfl rfl rfl ?_
              refine S.assignT rfl ?_
              refine WS.done ?_
              exact ⟨_, (by omega), ⟨j, rfl, (by exact ⟨by omega, fun i u h1 h2 => by
                        rcases Nat.eq_or_lt_of_le h1 with rfl | h1
                        · rw [hmj] at h2; cases h2; omega
                        · exact hgt i u h1 h2⟩), (by exact congrArg (Value.int .i64) (by omega)), ⟨rfl, trivial⟩, (by rw [← insL_swap hj hmj]; exact hS2012)⟩⟩
            ·
              skip
              refine S.fieldB Try.underlying44 rfl ti42 rfl rfl rfl rfl ?_
              refine WS.done ⟨fun _ => hS6008, ?_⟩
              replace hC := hS6008
              refine WA.take (fuel := 8) 21 rfl (by kernel_rfl) (by kernel_rfl) (by kernel_rfl) (by kernel_rfl) rfl rfl hC ?_
              refine Q.loadB (i := 1) rfl Try.underlying42 rfl rfl rfl rfl ?_
              refine WQ.done ?_
              refine WA.two (fuel := 7) 8 24 rfl rfl (by kernel_rfl) rfl ?_ ?_
              ·
                skip
                refine S.fieldB Try.underlying44 rfl ti42 rfl rfl rfl rfl ?_
                refine WS.done ⟨fun _ => hS6008, ?_⟩
                replace hC := hS6008
                refine WA.take (fuel := 6) 9 rfl (by kernel_rfl) (by kernel_rfl) (by kernel_rfl) (by kernel_rfl) rfl rfl hC ?_
                refine Q.loadB (i := 1) rfl Try.underlying42 rfl rfl rfl rfl ?_
                refine WQ.done ?_
                refine WA.one (fuel := 5) 24 rfl (by kernel_rfl) rfl ?_
                refine S.indexOwN (i := 0) hS6008 rfl Try.underlying42 ti56 rfl rfl (by omega) rfl ?_
                refine WS.done ⟨fun _ => hS6008, ?_⟩
                replace hC := hS6008
                refine WA.take (fuel := 4) 25 rfl (by kernel_rfl) (by kernel_rfl) (by kernel_rfl) (by kernel_rfl) rfl rfl hC ?_
                refine Q.loadOwA (i := 0) rfl (fun _ _ => rfl) Try.underlying56 rfl ti56 rfl ((insL_lo hj (by omega)).trans (List.getElem?_eq_getElem (by omega))) rfl ?_
                refine WQ.done ?_
                refine WA.take (fuel := 3) 26 rfl (by kernel_rfl) (by kernel_rfl) (by kernel_rfl) (by kernel_rfl) rfl rfl hC ?_
                refine Q.indexOwN (i := 0) rfl Try.underlying42 ti56 rfl rfl (by omega) rfl ?_
                refine WQ.done ?_
                refine WA.one (fuel := 2) 27 rfl (by kernel_rfl) rfl ?_
                refine S.storeOwA (i := 0) (u := (k, x)) hS6008 rfl (fun _ _ => rfl) ti56 rfl (by omega) rfl rfl rfl rfl rfl ?_
                intro w2013 hS2013; clear hS6008
                refine WS.done ⟨fun h => absurd h (by decide), ?_⟩
                refine WA.one (fuel := 1) 28 rfl (by kernel_rfl) rfl ?_
                refine S.indexOwN (i := 0) hS2013 rfl Try.underlying42 ti56 rfl rfl (by rw [List.length_set]; omega) rfl ?_
                refine WS.done ⟨fun h => absurd h (by decide), ?_⟩
                refine WA.one (fuel := 0) 29 rfl (by kernel_rfl) rfl ?_
                refine S.storeOwA (i := 0) (u := m[j]) hS2013 rfl (fun _ _ => rfl) ti56 rfl (by rw [List.length_set]; omega) rfl rfl rfl rfl rfl ?_
                intro w2014 hS2014; clear hS2013
                refine WS.done ⟨fun h => absurd h (by decide), ?_⟩
                refine WA.done (by kernel_rfl) ?_
                clear hC
                refine WR.region rfl ?_
                refine S.moveT rfl ?_
                first
                  | refine S.subN rfl rfl rfl (by omega) ?_
                  | refine S.sub rfl rfl rfl ?_
                refine S.assignT rfl ?_
                refine WS.done ?_
                exact ⟨_, (by omega), ⟨j, rfl, (by exact ⟨by omega, fun i u h1 h2 => by
                          rcases Nat.eq_or_lt_of_le h1 with rfl | h1
                          · rw [hmj] at h2; cases h2; omega
                          · exact hgt i u h1 h2⟩), (by exact congrArg (Value.int .i64) (by omega)), ⟨rfl, trivial⟩, (by rw [← insL_swap hj hmj]; exact hS2014)⟩⟩
              ·
                skip
                refine S.indexOwN (i := 0) hS6008 rfl Try.underlying42 ti56 rfl rfl (by omega) rfl ?_
                refine WS.done ⟨fun _ => hS6008, ?_⟩
                replace hC := hS6008
                refine WA.take (fuel := 6) 25 rfl (by kernel_rfl) (by kernel_rfl) (by kernel_rfl) (by kernel_rfl) rfl rfl hC ?_
                refine Q.loadOwA (i := 0) rfl (fun _ _ => rfl) Try.underlying56 rfl ti56 rfl ((insL_lo hj (by omega)).trans (List.getElem?_eq_getElem (by omega))) rfl ?_
                refine WQ.done ?_
                refine WA.one (fuel := 5) 8 rfl (by kernel_rfl) rfl ?_
                refine S.fieldB Try.underlying44 rfl ti42 rfl rfl rfl rfl ?_
                refine WS.done ⟨fun _ => hS6008, ?_⟩
                replace hC := hS6008
                refine WA.take (fuel := 4) 9 rfl (by kernel_rfl) (by kernel_rfl) (by kernel_rfl) (by kernel_rfl) rfl rfl hC ?_
                refine Q.loadB (i := 1) rfl Try.underlying42 rfl rfl rfl rfl ?_
                refine WQ.done ?_
                refine WA.take (fuel := 3) 26 rfl (by kernel_rfl) (by kernel_rfl) (by kernel_rfl) (by kernel_rfl) rfl rfl hC ?_
                refine Q.indexOwN (i := 0) rfl Try.underlying42 ti56 rfl rfl (by omega) rfl ?_
                refine WQ.done ?_
                refine WA.one (fuel := 2) 27 rfl (by kernel_rfl) rfl ?_
                refine S.storeOwA (i := 0) (u := (k, x)) hS6008 rfl (fun _ _ => rfl) ti56 rfl (by omega) rfl rfl rfl rfl rfl ?_
                intro w2015 hS2015; clear hS6008
                refine WS.done ⟨fun h => absurd h (by decide), ?_⟩
                refine WA.one (fuel := 1) 28 rfl (by kernel_rfl) rfl ?_
                refine S.indexOwN (i := 0) hS2015 rfl Try.underlying42 ti56 rfl rfl (by rw [List.length_set]; omega) rfl ?_
                refine WS.done ⟨fun h => absurd h (by decide), ?_⟩
                refine WA.one (fuel := 0) 29 rfl (by kernel_rfl) rfl ?_
                refine S.storeOwA (i := 0) (u := m[j]) hS2015 rfl (fun _ _ => rfl) ti56 rfl (by rw [List.length_set]; omega) rfl rfl rfl rfl rfl ?_
                intro w2016 hS2016; clear hS2015
                refine WS.done ⟨fun h => absurd h (by decide), ?_⟩
                refine WA.done (by kernel_rfl) ?_
                clear hC
                refine WR.region rfl ?_
                refine S.moveT rfl ?_
                first
                  | refine S.subN rfl rfl rfl (by omega) ?_
                  | refine S.sub rfl rfl rfl ?_
                refine S.assignT rfl ?_
                refine WS.done ?_
                exact ⟨_, (by omega), ⟨j, rfl, (by exact ⟨by omega, fun i u h1 h2 => by
                          rcases Nat.eq_or_lt_of_le h1 with rfl | h1
                          · rw [hmj] at h2; cases h2; omega
                          · exact hgt i u h1 h2⟩), (by exact congrArg (Value.int .i64) (by omega)), ⟨rfl, trivial⟩, (by rw [← insL_swap hj hmj]; exact hS2016)⟩⟩
        ·
          skip
          refine S.nilCheck rfl rfl ?_
          refine WS.done ⟨fun _ => hS6008, ?_⟩
          replace hC := hS6008
          refine WA.two (fuel := 10) 7 20 rfl rfl (by kernel_rfl) rfl ?_ ?_
          ·
            skip
            refine S.nilCheck rfl rfl ?_
            refine WS.done ⟨fun _ => hS6008, ?_⟩
            replace hC := hS6008
            refine WA.two (fuel := 9) 8 20 rfl rfl (by kernel_rfl) rfl ?_ ?_
            ·
              skip
              refine S.fieldB Try.underlying44 rfl ti42 rfl rfl rfl rfl ?_
              refine WS.done ⟨fun _ => hS6008, ?_⟩
              replace hC := hS6008
              refine WA.take (fuel := 8) 9 rfl (by kernel_rfl) (by kernel_rfl) (by kernel_rfl) (by kernel_rfl) rfl rfl hC ?_
              refine Q.loadB (i := 1) rfl Try.underlying42 rfl rfl rfl rfl ?_
              refine WQ.done ?_
              refine WA.one (fuel := 7) 20 rfl (by kernel_rfl) rfl ?_
              refine S.fieldB Try.underlying44 rfl ti42 rfl rfl rfl rfl ?_
              refine WS.done ⟨fun _ => hS6008, ?_⟩
              replace hC := hS6008
              refine WA.take (fuel := 6) 21 rfl (by kernel_rfl) (by kernel_rfl) (by kernel_rfl) (by kernel_rfl) rfl rfl hC ?_
              refine Q.loadB (i := 1) rfl Try.underlying42 rfl rfl rfl rfl ?_
              refine WQ.done ?_
              refine WA.one (fuel := 5) 24 rfl (by kernel_rfl) rfl ?_
              refine S.indexOwN (i := 0) hS6008 rfl Try.underlying42 ti56 rfl rfl (by omega) rfl ?_
              refine WS.done ⟨fun _ => hS6008, ?_⟩
              replace hC := hS6008
              refine WA.take (fuel := 4) 25 rfl (by kernel_rfl) (by kernel_rfl) (by kernel_rfl) (by kernel_rfl) rfl rfl hC ?_
              refine Q.loadOwA (i := 0) rfl (fun _ _ => rfl) Try.underlying56 rfl ti56 rfl ((insL_lo hj (by omega)).trans (List.getElem?_eq_getElem (by omega))) rfl ?_
              refine WQ.done ?_
              refine WA.take (fuel := 3) 26 rfl (by kernel_rfl) (by kernel_rfl) (by kernel_rfl) (by kernel_rfl) rfl rfl hC ?_
              refine Q.indexOwN (i := 0) rfl Try.underlying42 ti56 rfl rfl (by omega) rfl ?_
              refine WQ.done ?_
              refine WA.one (fuel := 2) 27 rfl (by kernel_rfl) rfl ?_
              refine S.storeOwA (i := 0) (u := (k, x)) hS6008 rfl (fun _ _ => rfl) ti56 rfl (by omega) rfl rfl rfl rfl rfl ?_
              intro w2017 hS2017; clear hS6008
              refine WS.done ⟨fun h => absurd h (by decide), ?_⟩
              refine WA.one (fuel := 1) 28 rfl (by kernel_rfl) rfl ?_
              refine S.indexOwN (i := 0) hS2017 rfl Try.underlying42 ti56 rfl rfl (by rw [List.length_set]; omega) rfl ?_
              refine WS.done ⟨fun h => absurd h (by decide), ?_⟩
              refine WA.one (fuel := 0) 29 rfl (by kernel_rfl) rfl ?_
              refine S.storeOwA (i := 0) (u := m[j]) hS2017 rfl (fun _ _ => rfl) ti56 rfl (by rw [List.length_set]; omega) rfl rfl rfl rfl rfl ?_
              intro w2018 hS2018; clear hS2017
              refine WS.done ⟨fun h => absurd h (by decide), ?_⟩
              refine WA.done (by kernel_rfl) ?_
              clear hC
              refine WR.region rfl ?_
              refine S.moveT rfl ?_
              first
                | refine S.subN rfl rfl rfl (by omega) ?_
                | refine S.sub rfl rfl rfl ?_
              refine S.assignT rfl ?_
              refine WS.done ?_
              exact ⟨_, (by omega), ⟨j, rfl, (by exact ⟨by omega, fun i u h1 h2 => by
                        rcases Nat.eq_or_lt_of_le h1 with rfl | h1
                        · rw [hmj] at h2; cases h2; omega
                        · exact hgt i u h1 h2⟩), (by exact congrArg (Value.int .i64) (by omega)), ⟨rfl, trivial⟩, (by rw [← insL_swap hj hmj]; exact hS2018)⟩⟩
            ·
              skip
              refine S.fieldB Try.underlying44 rfl ti42 rfl rfl rfl rfl ?_
              refine WS.done ⟨fun _ => hS6008, ?_⟩
              replace hC := hS6008
              refine WA.take (fuel := 8) 21 rfl (by kernel_rfl) (by kernel_rfl) (by kernel_rfl) (by kernel_rfl) rfl rfl hC ?_
              refine Q.loadB (i := 1) rfl Try.underlying42 rfl rfl rfl rfl ?_
              refine WQ.done ?_
              refine WA.two (fuel := 7) 8 24 rfl rfl (by kernel_rfl) rfl ?_ ?_
              ·
                skip
                refine S.fieldB Try.underlying44 rfl ti42 rfl rfl rfl rfl ?_
                refine WS.done ⟨fun _ => hS6008, ?_⟩
                replace hC := hS6008
                refine WA.take (fuel := 6) 9 rfl (by kernel_rfl) (by kernel_rfl) (by kernel_rfl) (by kernel_rfl) rfl rfl hC ?_
                refine Q.loadB (i := 1) rfl Try.underlying42 rfl rfl rfl rfl ?_
                refine WQ.done ?_
                refine WA.one (fuel := 5) 24 rfl (by kernel_rfl) rfl ?_
                refine S.indexOwN (i := 0) hS6008 rfl Try.underlying42 ti56 rfl rfl (by omega) rfl ?_
                refine WS.done ⟨fun _ => hS6008, ?_⟩
                replace hC := hS6008
                refine WA.take (fuel := 4) 25 rfl (by kernel_rfl) (by kernel_rfl) (by kernel_rfl) (by kernel_rfl) rfl rfl hC ?_
                refine Q.loadOwA (i := 0) rfl (fun _ _ => rfl) Try.underlying56 rfl ti56 rfl ((insL_lo hj (by omega)).trans (List.getElem?_eq_getElem (by omega))) rfl ?_
                refine WQ.done ?_
                refine WA.take (fuel := 3) 26 rfl (by kernel_rfl) (by kernel_rfl) (by kernel_rfl) (by kernel_rfl) rfl rfl hC ?_
                refine Q.indexOwN (i := 0) rfl Try.underlying42 ti56 rfl rfl (by omega) rfl ?_
                refine WQ.done ?_
                refine WA.one (fuel := 2) 27 rfl (by kernel_rfl) rfl ?_
                refine S.storeOwA (i := 0) (u := (k, x)) hS6008 rfl (fun _ _ => rfl) ti56 rfl (by omega) rfl rfl rfl rfl rfl ?_
                intro w2019 hS2019; clear hS6008
                refine WS.done ⟨fun h => absurd h (by decide), ?_⟩
                refine WA.one (fuel := 1) 28 rfl (by kernel_rfl) rfl ?_
                refine S.indexOwN (i := 0) hS2019 rfl Try.underlying42 ti56 rfl rfl (by rw [List.length_set]; omega) rfl ?_
                refine WS.done ⟨fun h => absurd h (by decide), ?_⟩
                refine WA.one (fuel := 0) 29 rfl (by kernel_rfl) rfl ?_
                refine S.storeOwA (i := 0) (u := m[j]) hS2019 rfl (fun _ _ => rfl) ti56 rfl (by rw [List.length_set]; omega) rfl rfl rfl rfl rfl ?_
                intro w2020 hS2020; clear hS2019
                refine WS.done ⟨fun h => absurd h (by decide), ?_⟩
                refine WA.done (by kernel_rfl) ?_
                clear hC
                refine WR.region rfl ?_
                refine S.moveT rfl ?_
                first
                  | refine S.subN rfl rfl rfl (by omega) ?_
                  | refine S.sub rfl rfl rfl ?_
                refine S.assignT rfl ?_
                refine WS.done ?_
                exact ⟨_, (by omega), ⟨j, rfl, (by exact ⟨by omega, fun i u h1 h2 => by
                          rcases Nat.eq_or_lt_of_le h1 with rfl | h1
                          · rw [hmj] at h2; cases h2; omega
                          · exact hgt i u h1 h2⟩), (by exact congrArg (Value.int .i64) (by omega)), ⟨rfl, trivial⟩, (by rw [← insL_swap hj hmj]; exact hS2020)⟩⟩
              ·
                skip
                refine S.indexOwN (i := 0) hS6008 rfl Try.underlying42 ti56 rfl rfl (by omega) rfl ?_
                refine WS.done ⟨fun _ => hS6008, ?_⟩
                replace hC := hS6008
                refine WA.take (fuel := 6) 25 rfl (by kernel_rfl) (by kernel_rfl) (by kernel_rfl) (by kernel_rfl) rfl rfl hC ?_
                refine Q.loadOwA (i := 0) rfl (fun _ _ => rfl) Try.underlying56 rfl ti56 rfl ((insL_lo hj (by omega)).trans (List.getElem?_eq_getElem (by omega))) rfl ?_
                refine WQ.done ?_
                refine WA.one (fuel := 5) 8 rfl (by kernel_rfl) rfl ?_
                refine S.fieldB Try.underlying44 rfl ti42 rfl rfl rfl rfl ?_
                refine WS.done ⟨fun _ => hS6008, ?_⟩
                replace hC := hS6008
                refine WA.take (fuel := 4) 9 rfl (by kernel_rfl) (by kernel_rfl) (by kernel_rfl) (by kernel_rfl) rfl rfl hC ?_
                refine Q.loadB (i := 1) rfl Try.underlying42 rfl rfl rfl rfl ?_
                refine WQ.done ?_
                refine WA.take (fuel := 3) 26 rfl (by kernel_rfl) (by kernel_rfl) (by kernel_rfl) (by kernel_rfl) rfl rfl hC ?_
                refine Q.indexOwN (i := 0) rfl Try.underlying42 ti56 rfl rfl (by omega) rfl ?_
                refine WQ.done ?_
                refine WA.one (fuel := 2) 27 rfl (by kernel_rfl) rfl ?_
                refine S.storeOwA (i := 0) (u := (k, x)) hS6008 rfl (fun _ _ => rfl) ti56 rfl (by omega) rfl rfl rfl rfl rfl ?_
                intro w2021 hS2021; clear hS6008
                refine WS.done ⟨fun h => absurd h (by decide), ?_⟩
                refine WA.one (fuel := 1) 28 rfl (by kernel_rfl) rfl ?_
                refine S.indexOwN (i := 0) hS2021 rfl Try.underlying42 ti56 rfl rfl (by rw [List.length_set]; omega) rfl ?_
                refine WS.done ⟨fun h => absurd h (by decide), ?_⟩
                refine WA.one (fuel := 0) 29 rfl (by kernel_rfl) rfl ?_
                refine S.storeOwA (i := 0) (u := m[j]) hS2021 rfl (fun _ _ => rfl) ti56 rfl (by rw [List.length_set]; omega) rfl rfl rfl rfl rfl ?_
                intro w2022 hS2022; clear hS2021
                refine WS.done ⟨fun h => absurd h (by decide), ?_⟩
                refine WA.done (by kernel_rfl) ?_
                clear hC
                refine WR.region rfl ?_
                refine S.moveT rfl ?_
                first
                  | refine S.subN rfl rfl rfl (by omega) ?_
                  | refine S.sub rfl rfl rfl ?_
                refine S.assignT rfl ?_
                refine WS.done ?_
                exact ⟨_, (by omega), ⟨j, rfl, (by exact ⟨by omega, fun i u h1 h2 => by
                          rcases Nat.eq_or_lt_of_le h1 with rfl | h1
                          · rw [hmj] at h2; cases h2; omega
                          · exact hgt i u h1 h2⟩), (by exact congrArg (Value.int .i64) (by omega)), ⟨rfl, trivial⟩, (by rw [← insL_swap hj hmj]; exact hS2022)⟩⟩
          ·
            skip
            refine S.fieldB Try.underlying44 rfl ti42 rfl rfl rfl rfl ?_
            refine WS.done ⟨fun _ => hS6008, ?_⟩
            replace hC := hS6008
            refine WA.take (fuel := 9) 21 rfl (by kernel_rfl) (by kernel_rfl) (by kernel_rfl) (by kernel_rfl) rfl rfl hC ?_
            refine Q.loadB (i := 1) rfl Try.underlying42 rfl rfl rfl rfl ?_
            refine WQ.done ?_
            refine WA.two (fuel := 8) 7 24 rfl rfl (by kernel_rfl) rfl ?_ ?_
            ·
              skip
              refine S.nilCheck rfl rfl ?_
              refine WS.done ⟨fun _ => hS6008, ?_⟩
              replace hC := hS6008
              refine WA.two (fuel := 7) 8 24 rfl rfl (by kernel_rfl) rfl ?_ ?_
              ·
                skip
                refine S.fieldB Try.underlying44 rfl ti42 rfl rfl rfl rfl ?_
                refine WS.done ⟨fun _ => hS6008, ?_⟩
                replace hC := hS6008
                refine WA.take (fuel := 6) 9 rfl (by kernel_rfl) (by kernel_rfl) (by kernel_rfl) (by kernel_rfl) rfl rfl hC ?_
                refine Q.loadB (i := 1) rfl Try.underlying42 rfl rfl rfl rfl ?_
                refine WQ.done ?_
                refine WA.one (fuel := 5) 24 rfl (by kernel_rfl) rfl ?_
                refine S.indexOwN (i := 0) hS6008 rfl Try.underlying42 ti56 rfl rfl (by omega) rfl ?_
                refine WS.done ⟨fun _ => hS6008, ?_⟩
                replace hC := hS6008
                refine WA.take (fuel := 4) 25 rfl (by kernel_rfl) (by kernel_rfl) (by kernel_rfl) (by kernel_rfl) rfl rfl hC ?_
                refine Q.loadOwA (i := 0) rfl (fun _ _ => rfl) Try.underlying56 rfl ti56 rfl ((insL_lo hj (by omega)).trans (List.getElem?_eq_getElem (by omega))) rfl ?_
                refine WQ.done ?_
                refine WA.take (fuel := 3) 26 rfl (by kernel_rfl) (by kernel_rfl) (by kernel_rfl) (by kernel_rfl) rfl rfl hC ?_
                refine Q.indexOwN (i := 0) rfl Try.underlying42 ti56 rfl rfl (by omega) rfl ?_
                refine WQ.done ?_
                refine WA.one (fuel := 2) 27 rfl (by kernel_rfl) rfl ?_
                refine S.storeOwA (i := 0) (u := (k, x)) hS6008 rfl (fun _ _ => rfl) ti56 rfl (by omega) rfl rfl rfl rfl rfl ?_
                intro w2023 hS2023; clear hS6008
                refine WS.done ⟨fun h => absurd h (by decide), ?_⟩
                refine WA.one (fuel := 1) 28 rfl (by kernel_rfl) rfl ?_
                refine S.indexOwN (i := 0) hS2023 rfl Try.underlying42 ti56 rfl rfl (by rw [List.length_set]; omega) rfl ?_
                refine WS.done ⟨fun h => absurd h (by decide), ?_⟩
                refine WA.one (fuel := 0) 29 rfl (by kernel_rfl) rfl ?_
                refine S.storeOwA (i := 0) (u := m[j]) hS2023 rfl (fun _ _ => rfl) ti56 rfl (by rw [List.length_set]; omega) rfl rfl rfl rfl rfl ?_
                intro w2024 hS2024; clear hS2023
                refine WS.done ⟨fun h => absurd h (by decide), ?_⟩
                refine WA.done (by kernel_rfl) ?_
                clear hC
                refine WR.region rfl ?_
                refine S.moveT rfl ?_
                first
                  | refine S.subN rfl rfl rfl (by omega) ?_
                  | refine S.sub rfl rfl rfl ?_
                refine S.assignT rfl ?_
                refine WS.done ?_
                exact ⟨_, (by omega), ⟨j, rfl, (by exact ⟨by omega, fun i u h1 h2 => by
                          rcases Nat.eq_or_lt_of_le h1 with rfl | h1
                          · rw [hmj] at h2; cases h2; omega
                          · exact hgt i u h1 h2⟩), (by exact congrArg (Value.int .i64) (by omega)), ⟨rfl, trivial⟩, (by rw [← insL_swap hj hmj]; exact hS2024)⟩⟩
              ·
                skip
                refine S.indexOwN (i := 0) hS6008 rfl Try.underlying42 ti56 rfl rfl (by omega) rfl ?_
                refine WS.done ⟨fun _ => hS6008, ?_⟩
                replace hC := hS6008
                refine WA.take (fuel := 6) 25 rfl (by kernel_rfl) (by kernel_rfl) (by kernel_rfl) (by kernel_rfl) rfl rfl hC ?_
                refine Q.loadOwA (i := 0) rfl (fun _ _ => rfl) Try.underlying56 rfl ti56 rfl ((insL_lo hj (by omega)).trans (List.getElem?_eq_getElem (by omega))) rfl ?_
                refine WQ.done ?_
                refine WA.one (fuel := 5) 8 rfl (by kernel_rfl) rfl ?_
                refine S.fieldB Try.underlying44 rfl ti42 rfl rfl rfl rfl ?_
                refine WS.done ⟨fun _ => hS6008, ?_⟩
                replace hC := hS6008
                refine WA.take (fuel := 4) 9 rfl (by kernel_rfl) (by kernel_rfl) (by kernel_rfl) (by kernel_rfl) rfl rfl hC ?_
                refine Q.loadB (i := 1) rfl Try.underlying42 rfl rfl rfl rfl ?_
                refine WQ.done ?_
                refine WA.take (fuel := 3) 26 rfl (by kernel_rfl) (by kernel_rfl) (by kernel_rfl) (by kernel_rfl) rfl rfl hC ?_
                refine Q.indexOwN (i := 0) rfl Try.underlying42 ti56 rfl rfl (by omega) rfl ?_
                refine WQ.done ?_
                refine WA.one (fuel := 2) 27 rfl (by kernel_rfl) rfl ?_
                refine S.storeOwA (i := 0) (u := (k, x)) hS6008 rfl (fun _ _ => rfl) ti56 rfl (by omega) rfl rfl rfl rfl rfl ?_
                intro w2025 hS2025; clear hS6008
                refine WS.done ⟨fun h => absurd h (by decide), ?_⟩
                refine WA.one (fuel := 1) 28 rfl (by kernel_rfl) rfl ?_
                refine S.indexOwN (i := 0) hS2025 rfl Try.underlying42 ti56 rfl rfl (by rw [List.length_set]; omega) rfl ?_
                refine WS.done ⟨fun h => absurd h (by decide), ?_⟩
                refine WA.one (fuel := 0) 29 rfl (by kernel_rfl) rfl ?_
                refine S.storeOwA (i := 0) (u := m[j]) hS2025 rfl (fun _ _ => rfl) ti56 rfl (by rw [List.length_set]; omega) rfl rfl rfl rfl rfl ?_
                intro w2026 hS2026; clear hS2025
                refine WS.done ⟨fun h => absurd h (by decide), ?_⟩
                refine WA.done (by kernel_rfl) ?_
                clear hC
                refine WR.region rfl ?_
                refine S.moveT rfl ?_
                first
                  | refine S.subN rfl rfl rfl (by omega) ?_
                  | refine S.sub rfl rfl rfl ?_
                refine S.assignT rfl ?_
                refine WS.done ?_
                exact ⟨_, (by omega), ⟨j, rfl, (by exact ⟨by omega, fun i u h1 h2 => by
                          rcases Nat.eq_or_lt_of_le h1 with rfl | h1
                          · rw [hmj] at h2; cases h2; omega
                          · exact hgt i u h1 h2⟩), (by exact congrArg (Value.int .i64) (by omega)), ⟨rfl, trivial⟩, (by rw [← insL_swap hj hmj]; exact hS2026)⟩⟩
            ·
              skip
              refine S.indexOwN (i := 0) hS6008 rfl Try.underlying42 ti56 rfl rfl (by omega) rfl ?_
              refine WS.done ⟨fun _ => hS6008, ?_⟩
              replace hC := hS6008
              refine WA.take (fuel := 7) 25 rfl (by kernel_rfl) (by kernel_rfl) (by kernel_rfl) (by kernel_rfl) rfl rfl hC ?_
              refine Q.loadOwA (i := 0) rfl (fun _ _ => rfl) Try.underlying56 rfl ti56 rfl ((insL_lo hj (by omega)).trans (List.getElem?_eq_getElem (by omega))) rfl ?_
              refine WQ.done ?_
              refine WA.one (fuel := 6) 7 rfl (by kernel_rfl) rfl ?_
              refine S.nilCheck rfl rfl ?_
              refine WS.done ⟨fun _ => hS6008, ?_⟩
              replace hC := hS6008
              refine WA.one (fuel := 5) 8 rfl (by kernel_rfl) rfl ?_
              refine S.fieldB Try.underlying44 rfl ti42 rfl rfl rfl rfl ?_
              refine WS.done ⟨fun _ => hS6008, ?_⟩
              replace hC := hS6008
              refine WA.take (fuel := 4) 9 rfl (by kernel_rfl) (by kernel_rfl) (by kernel_rfl) (by kernel_rfl) rfl rfl hC ?_
              refine Q.loadB (i := 1) rfl Try.underlying42 rfl rfl rfl rfl ?_
              refine WQ.done ?_
              refine WA.take (fuel := 3) 26 rfl (by kernel_rfl) (by kernel_rfl) (by kernel_rfl) (by kernel_rfl) rfl rfl hC ?_
              refine Q.indexOwN (i := 0) rfl Try.underlying42 ti56 rfl rfl (by omega) rfl ?_
              refine WQ.done ?_
              refine WA.one (fuel := 2) 27 rfl (by kernel_rfl) rfl ?_
              refine S.storeOwA (i := 0) (u := (k, x)) hS6008 rfl (fun _ _ => rfl) ti56 rfl (by omega) rfl rfl rfl rfl rfl ?_
              intro w2027 hS2027; clear hS6008
              refine WS.done ⟨fun h => absurd h (by decide), ?_⟩
              refine WA.one (fuel := 1) 28 rfl (by kernel_rfl) rfl ?_
              refine S.indexOwN (i := 0) hS2027 rfl Try.underlying42 ti56 rfl rfl (by rw [List.length_set]; omega) rfl ?_
              refine WS.done ⟨fun h => absurd h (by decide), ?_⟩
              refine WA.one (fuel := 0) 29 rfl (by kernel_rfl) rfl ?_
              refine S.storeOwA (i := 0) (u := m[j]) hS2027 rfl (fun _ _ => rfl) ti56 rfl (by rw [List.length_set]; omega) rfl rfl rfl rfl rfl ?_
              intro w2028 hS2028; clear hS2027
              refine WS.done ⟨fun h => absurd h (by decide), ?_⟩
              refine WA.done (by kernel_rfl) ?_
              clear hC
              refine WR.region rfl ?_
              refine S.moveT rfl ?_
              first
                | refine S.subN rfl rfl rfl (by omega) ?_
                | refine S.sub rfl rfl rfl ?_
              refine S.assignT rfl ?_
              refine WS.done ?_
              exact ⟨_, (by omega), ⟨j, rfl, (by exact ⟨by omega, fun i u h1 h2 => by
                        rcases Nat.eq_or_lt_of_le h1 with rfl | h1
                        · rw [hmj] at h2; cases h2; omega
                        · exact hgt i u h1 h2⟩), (by exact congrArg (Value.int .i64) (by omega)), ⟨rfl, trivial⟩, (by rw [← insL_swap hj hmj]; exact hS2028)⟩⟩
      ·
        skip
        refine WR.exit ?_
        refine Exists.intro [] ⟨trivial, ?_⟩
        have hins : insL m j (k, x) = aput m k x := by
          rw [aput_new hg]
          refine insL_ains m j hj (fun i u h1 h2 h3 => ?_) (fun u hu => hgt j u (Nat.le_refl _) hu)
          have hlt := (List.getElem?_eq_some_iff.1 h2).1
          have hj1 : m[j - 1]? = some (m[j - 1]'(by omega)) := List.getElem?_eq_getElem (by omega)
          have := rise_le hr (show i ≤ j - 1 by omega) h2 hj1
          first | (exfalso; omega) | (have e9 : ((j : Int) - 1).toNat = j - 1 := by omega
                                      simp only [e9] at c43
                                      omega)
        rw [hins] at hS5007
        obtain ⟨R9, hR9, hro9, hSf⟩ := hS5007.freeze (fun _ _ => rfl)
        exact ⟨R9, _, hR9, hro9, (hSf.at_ (i := 1) rfl).drop⟩
    ·
      skip
      refine Q.off rfl ?_
      refine Q.off rfl ?_
      refine Q.off rfl ?_
      refine Q.off rfl ?_
      refine Q.off rfl ?_
      refine Q.off rfl ?_
      refine Q.off rfl ?_
      refine Q.off rfl ?_
      refine Q.off rfl ?_
      refine Q.off rfl ?_
      refine Q.off rfl ?_
      refine Q.off rfl ?_
      refine Q.off rfl ?_
      refine Q.off rfl ?_
      refine Q.off rfl ?_
      refine Q.off rfl ?_
      refine Q.off rfl ?_
      refine Q.off rfl ?_
      refine Q.pickFC rfl rfl ?_
      refine WQ.done ?_
      intro w5029 hS5029
      clear hS1001
      refine WR.condF rfl ?_
      refine WR.exit ?_
      refine Exists.intro [] ⟨trivial, ?_⟩
      have hins : insL m j (k, x) = aput m k x := by
        rw [aput_new hg]
        refine insL_ains m j hj (fun i u h1 h2 h3 => ?_) (fun u hu => hgt j u (Nat.le_refl _) hu)
        have hlt := (List.getElem?_eq_some_iff.1 h2).1
        have hj1 : m[j - 1]? = some (m[j - 1]'(by omega)) := List.getElem?_eq_getElem (by omega)
        have := rise_le hr (show i ≤ j - 1 by omega) h2 hj1
        first | (exfalso; omega) | (have e9 : ((j : Int) - 1).toNat = j - 1 := by omega
                                    simp only [e9] at c43
                                    omega)
      rw [hins] at hS5029
      obtain ⟨R9, hR9, hro9, hSf⟩ := hS5029.freeze (fun _ _ => rfl)
      exact ⟨R9, _, hR9, hro9, (hSf.at_ (i := 1) rfl).drop⟩


end Go.Proofs.Ytcbfmbcmokafpaa.B
